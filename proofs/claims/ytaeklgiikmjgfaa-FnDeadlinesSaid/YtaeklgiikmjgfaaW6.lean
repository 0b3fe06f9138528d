import Derived.Test.YtaeklgiikmjgfaaSpec
import Derived.Test.YtaeklgiikmjgfaaPLb
import Derived.Test.YtaeklgiikmjgfaaW5
set_option linter.all false
namespace Go.Sa
open Go Go.Eng Go.Proofs
set_option maxRecDepth 100000
set_option maxHeartbeats 4000000
/-! ### loop.example/g00038/laws.FnDeadlines -/
abbrev sl_laws_FnDeadlines_r : SlotT := [(0, ([3, 4, 6, 7], [2])), (2, ([3, 4, 6, 7, 8], [2, 3, 4, 6, 7])), (4, ([3, 4, 6, 7, 8, 9, 10], [3, 4, 6, 7, 8, 9]))]
abbrev J_laws_FnDeadlines_r : JT := jn [(6, [(44, .b)]), (8, [(52, .b)])] [(110, [(9, .i .i64)])] []
noncomputable def O_laws_FnDeadlines_r (N : Nat) : Orc E := addFn 10 (o_spec_Admit_r N) (addFn 9 (o_impl_Admit_r N) (addFn 8 (o_laws_lwInts_rr N) (addFn 7 (o_impl_RunDeadline_w N) (addFn 6 (o_spec_RunDeadline_w N) (addFn 5 (o_spec_DrawRunDeadline_r N) (noFn))))))
noncomputable def pa_laws_FnDeadlines_r__o_spec_Admit_r (N : Nat) (G_spec_Admit_r : ∀ {R : Type} (b : Bool) (l : List RtTask) (k : Bool → Option R), Option R) {R : Type} (args : List AV) (H : Hp E) (K : AV → Hp E → Option R) : Option R :=
 match args, H with
 | [(AV.sc (SV.slc 0 none b))], [(some (HE.mk true (HB.rows (B.iRtTask l))))] => G_spec_Admit_r b l (fun b3 => K (AV.sc (SV.bool b3)) [(some (HE.mk true (HB.rows (B.iRtTask l))))])
 | _, _ => none
noncomputable def pa_laws_FnDeadlines_r__o_impl_Admit_r (N : Nat) (G_impl_Admit_r : ∀ {R : Type} (b : Bool) (l : List RtTask) (k : Bool → Option R), Option R) {R : Type} (args : List AV) (H : Hp E) (K : AV → Hp E → Option R) : Option R :=
 match args, H with
 | [(AV.sc (SV.slc 0 none b))], [(some (HE.mk true (HB.rows (B.iRtTask l))))] => G_impl_Admit_r b l (fun b5 => K (AV.sc (SV.bool b5)) [(some (HE.mk true (HB.rows (B.iRtTask l))))])
 | _, _ => none
noncomputable def pa_laws_FnDeadlines_r__o_laws_lwInts_rr (N : Nat) (G_laws_lwInts_rr : ∀ {R : Type} (b : Bool) (b1 : Bool) (l : List Int) (l1 : List Int) (k : Bool → Option R), Option R) {R : Type} (args : List AV) (H : Hp E) (K : AV → Hp E → Option R) : Option R :=
 match args, H with
 | [(AV.sc (SV.slc 0 none b)), (AV.sc (SV.slc 1 none b1))], [(some (HE.mk true (HB.rows (B.i64 l)))), (some (HE.mk true (HB.rows (B.i64 l1))))] => G_laws_lwInts_rr b b1 l l1 (fun b4 => K (AV.sc (SV.bool b4)) [(some (HE.mk true (HB.rows (B.i64 l)))), (some (HE.mk true (HB.rows (B.i64 l1))))])
 | _, _ => none
noncomputable def pa_laws_FnDeadlines_r__o_impl_RunDeadline_w (N : Nat) (G_impl_RunDeadline_w : ∀ {R : Type} (b : Bool) (n : Int) (l : List RtTask) (k : Int → Bool → Bool → (List Int) → (List Int) → Option R), Option R) {R : Type} (args : List AV) (H : Hp E) (K : AV → Hp E → Option R) : Option R :=
 match args, H with
 | [(AV.sc (SV.slc 0 none b)), (AV.sc (SV.int IntKind.i64 n))], [(some (HE.mk false (HB.rows (B.iRtTask l))))] => G_impl_RunDeadline_w b n l (fun n20 b26 b27 l27 l28 => K (AV.agg [(SV.int IntKind.i64 n20), (SV.slc 1 none b26), (SV.slc 2 none b27)]) [(some (HE.mk false (HB.rows (B.iRtTask l)))), (some (HE.mk false (HB.rows (B.i64 l27)))), (some (HE.mk false (HB.rows (B.i64 l28))))])
 | _, _ => none
noncomputable def pa_laws_FnDeadlines_r__o_spec_RunDeadline_w (N : Nat) (G_spec_RunDeadline_w : ∀ {R : Type} (b : Bool) (n : Int) (l : List RtTask) (k : Int → Bool → Bool → (List Int) → (List Int) → Option R), Option R) {R : Type} (args : List AV) (H : Hp E) (K : AV → Hp E → Option R) : Option R :=
 match args, H with
 | [(AV.sc (SV.slc 0 none b)), (AV.sc (SV.int IntKind.i64 n))], [(some (HE.mk false (HB.rows (B.iRtTask l))))] => G_spec_RunDeadline_w b n l (fun n12 b17 b18 l20 l21 => K (AV.agg [(SV.int IntKind.i64 n12), (SV.slc 1 none b17), (SV.slc 2 none b18)]) [(some (HE.mk false (HB.rows (B.iRtTask l)))), (some (HE.mk false (HB.rows (B.i64 l20)))), (some (HE.mk false (HB.rows (B.i64 l21))))])
 | _, _ => none
noncomputable def pa_laws_FnDeadlines_r__o_spec_DrawRunDeadline_r (N : Nat) (G_spec_DrawRunDeadline_r : ∀ {R : Type} (b : Bool) (l : List Int) (k : Bool → Int → (List RtTask) → Option R), Option R) {R : Type} (args : List AV) (H : Hp E) (K : AV → Hp E → Option R) : Option R :=
 match args, H with
 | [(AV.sc (SV.slc 0 none b))], [(some (HE.mk true (HB.rows (B.u8 l))))] => G_spec_DrawRunDeadline_r b l (fun b4 n14 l3 => K (AV.tup [(false, [(SV.slc 1 none b4)]), (false, [(SV.int IntKind.i64 n14)])]) [(some (HE.mk true (HB.rows (B.u8 l)))), (some (HE.mk false (HB.rows (B.iRtTask l3))))])
 | _, _ => none
noncomputable def OA_laws_FnDeadlines_r (N : Nat) (G_spec_Admit_r : ∀ {R : Type} (b : Bool) (l : List RtTask) (k : Bool → Option R), Option R) (G_impl_Admit_r : ∀ {R : Type} (b : Bool) (l : List RtTask) (k : Bool → Option R), Option R) (G_laws_lwInts_rr : ∀ {R : Type} (b : Bool) (b1 : Bool) (l : List Int) (l1 : List Int) (k : Bool → Option R), Option R) (G_impl_RunDeadline_w : ∀ {R : Type} (b : Bool) (n : Int) (l : List RtTask) (k : Int → Bool → Bool → (List Int) → (List Int) → Option R), Option R) (G_spec_RunDeadline_w : ∀ {R : Type} (b : Bool) (n : Int) (l : List RtTask) (k : Int → Bool → Bool → (List Int) → (List Int) → Option R), Option R) (G_spec_DrawRunDeadline_r : ∀ {R : Type} (b : Bool) (l : List Int) (k : Bool → Int → (List RtTask) → Option R), Option R) : Orc E := addFn 10 (pa_laws_FnDeadlines_r__o_spec_Admit_r N G_spec_Admit_r) (addFn 9 (pa_laws_FnDeadlines_r__o_impl_Admit_r N G_impl_Admit_r) (addFn 8 (pa_laws_FnDeadlines_r__o_laws_lwInts_rr N G_laws_lwInts_rr) (addFn 7 (pa_laws_FnDeadlines_r__o_impl_RunDeadline_w N G_impl_RunDeadline_w) (addFn 6 (pa_laws_FnDeadlines_r__o_spec_RunDeadline_w N G_spec_RunDeadline_w) (addFn 5 (pa_laws_FnDeadlines_r__o_spec_DrawRunDeadline_r N G_spec_DrawRunDeadline_r) (noFn))))))
theorem O_laws_FnDeadlines_r_ok (N : Nat) : OrcOk (O_laws_FnDeadlines_r N) := addFn_ok (o_spec_Admit_r_ok N) (addFn_ok (o_impl_Admit_r_ok N) (addFn_ok (o_laws_lwInts_rr_ok N) (addFn_ok (o_impl_RunDeadline_w_ok N) (addFn_ok (o_spec_RunDeadline_w_ok N) (addFn_ok (o_spec_DrawRunDeadline_r_ok N) (noFn_ok))))))
noncomputable def s_laws_FnDeadlines_r_4 (N : Nat) {R : Type} (b16 : Bool) (n10 : Int) (n11 : Int) (n12 : Int) (l14 : List Int) (l15 : List RtTask) (n15 : Int) (b17 : Bool) (b18 : Bool) (l16 : List Int) (l17 : List Int) (n13 : Int) (n14 : Int) (ag : Int → Int → Option R)  (kN : Int → Option R) : Option R :=
 (cond ((decide (((0 : Int) ≤ n11))) && (decide ((n11 < (((List.length l15) : Nat) : Int)))))
 (elemK l15 (Int.toNat n11) fun x3 =>
 (cond (decide ((n14 < (IntKind.wrap IntKind.i64 (n12 + (RtTask.fPeriod x3))))))
 (cond ((decide (((0 : Int) ≤ n14))) && (decide ((n14 < (((List.length l16) : Nat) : Int)))))
 (elemK l16 (Int.toNat n14) fun x4 =>
 (oK (cond (x4 == n11)
 (some (IntKind.wrap IntKind.i64 (n13 + (1 : Int))))
 (some n13)) fun j2 =>
 (ag j2 (IntKind.wrap IntKind.i64 (n14 + (1 : Int))))))
 none)
 (kN n13)))
 none)
noncomputable def ga_s_laws_FnDeadlines_r_4 (N : Nat) (G_spec_Admit_r : ∀ {R : Type} (b : Bool) (l : List RtTask) (k : Bool → Option R), Option R) (G_impl_Admit_r : ∀ {R : Type} (b : Bool) (l : List RtTask) (k : Bool → Option R), Option R) (G_laws_lwInts_rr : ∀ {R : Type} (b : Bool) (b1 : Bool) (l : List Int) (l1 : List Int) (k : Bool → Option R), Option R) (G_impl_RunDeadline_w : ∀ {R : Type} (b : Bool) (n : Int) (l : List RtTask) (k : Int → Bool → Bool → (List Int) → (List Int) → Option R), Option R) (G_spec_RunDeadline_w : ∀ {R : Type} (b : Bool) (n : Int) (l : List RtTask) (k : Int → Bool → Bool → (List Int) → (List Int) → Option R), Option R) (G_spec_DrawRunDeadline_r : ∀ {R : Type} (b : Bool) (l : List Int) (k : Bool → Int → (List RtTask) → Option R), Option R) {R : Type} (b16 : Bool) (n10 : Int) (n11 : Int) (n12 : Int) (l14 : List Int) (l15 : List RtTask) (n15 : Int) (b17 : Bool) (b18 : Bool) (l16 : List Int) (l17 : List Int) (n13 : Int) (n14 : Int) (ag : Int → Int → Option R)  (kN : Int → Option R) : Option R :=
 (cond ((decide (((0 : Int) ≤ n11))) && (decide ((n11 < (((List.length l15) : Nat) : Int)))))
 (elemK l15 (Int.toNat n11) fun x3 =>
 (cond (decide ((n14 < (IntKind.wrap IntKind.i64 (n12 + (RtTask.fPeriod x3))))))
 (cond ((decide (((0 : Int) ≤ n14))) && (decide ((n14 < (((List.length l16) : Nat) : Int)))))
 (elemK l16 (Int.toNat n14) fun x4 =>
 (oK (cond (x4 == n11)
 (some (IntKind.wrap IntKind.i64 (n13 + (1 : Int))))
 (some n13)) fun j2 =>
 (ag j2 (IntKind.wrap IntKind.i64 (n14 + (1 : Int))))))
 none)
 (kN n13)))
 none)
noncomputable def l_laws_FnDeadlines_r_4 (N : Nat) {R : Type} (b16 : Bool) (n10 : Int) (n11 : Int) (n12 : Int) (l14 : List Int) (l15 : List RtTask) (n15 : Int) (b17 : Bool) (b18 : Bool) (l16 : List Int) (l17 : List Int) (kN : Int → Option R) : Nat → Int → Int → Option R
 | 0, _, _ => none
 | f + 1, n13, n14 => s_laws_FnDeadlines_r_4 N b16 n10 n11 n12 l14 l15 n15 b17 b18 l16 l17 n13 n14 (fun n13 n14 => l_laws_FnDeadlines_r_4 N b16 n10 n11 n12 l14 l15 n15 b17 b18 l16 l17 kN f n13 n14)  kN
noncomputable def c_laws_FnDeadlines_r_4 (N : Nat) {R : Type} (b16 : Bool) (n10 : Int) (n11 : Int) (n12 : Int) (l14 : List Int) (l15 : List RtTask) (n15 : Int) (b17 : Bool) (b18 : Bool) (l16 : List Int) (l17 : List Int) (n13 : Int) (n14 : Int) (kN : Int → Option R) : Option R := l_laws_FnDeadlines_r_4 N b16 n10 n11 n12 l14 l15 n15 b17 b18 l16 l17 kN N n13 n14
theorem ea_se_laws_FnDeadlines_r_4 (N : Nat) (G_spec_Admit_r : ∀ {R : Type} (b : Bool) (l : List RtTask) (k : Bool → Option R), Option R) (G_impl_Admit_r : ∀ {R : Type} (b : Bool) (l : List RtTask) (k : Bool → Option R), Option R) (G_laws_lwInts_rr : ∀ {R : Type} (b : Bool) (b1 : Bool) (l : List Int) (l1 : List Int) (k : Bool → Option R), Option R) (G_impl_RunDeadline_w : ∀ {R : Type} (b : Bool) (n : Int) (l : List RtTask) (k : Int → Bool → Bool → (List Int) → (List Int) → Option R), Option R) (G_spec_RunDeadline_w : ∀ {R : Type} (b : Bool) (n : Int) (l : List RtTask) (k : Int → Bool → Bool → (List Int) → (List Int) → Option R), Option R) (G_spec_DrawRunDeadline_r : ∀ {R : Type} (b : Bool) (l : List Int) (k : Bool → Int → (List RtTask) → Option R), Option R) {R : Type} (b16 : Bool) (n10 : Int) (n11 : Int) (n12 : Int) (l14 : List Int) (l15 : List RtTask) (n15 : Int) (b17 : Bool) (b18 : Bool) (l16 : List Int) (l17 : List Int) (n13 : Int) (n14 : Int) (AG : List (Option AV) → Hp E → Option R) (KL : Ex → List (Option AV) → Hp E → Option R) :
    iterStep (E := E) (OA_laws_FnDeadlines_r N G_spec_Admit_r G_impl_Admit_r G_laws_lwInts_rr G_impl_RunDeadline_w G_spec_RunDeadline_w G_spec_DrawRunDeadline_r) (fun {R} => LI (noIt) 1 120 sl_laws_FnDeadlines_r (R := R)) J_laws_FnDeadlines_r 1 120 4 [3, 4, 6, 7, 8, 9, 10] [3, 4, 6, 7, 8, 9] (body Try.f3 4) AG KL [(some (AV.sc (SV.slc 1 none b16))), (some (AV.sc (SV.int IntKind.i64 n10))), (some (AV.sc (SV.ptr 2 0 0))), (some (AV.sc (SV.int IntKind.i64 n11))), (some (AV.sc (SV.int IntKind.i64 n12))), (some (AV.sc (SV.int IntKind.i64 n13))), (some (AV.sc (SV.int IntKind.i64 n14)))] [(some (HE.mk true (HB.rows (B.u8 l14)))), (some (HE.mk false (HB.rows (B.iRtTask l15)))), (some (HE.mk false (HB.exp none [(SV.int IntKind.i64 n15), (SV.slc 3 none b17), (SV.slc 4 none b18)]))), (some (HE.mk false (HB.rows (B.i64 l16)))), (some (HE.mk false (HB.rows (B.i64 l17))))] =
      ga_s_laws_FnDeadlines_r_4 N G_spec_Admit_r G_impl_Admit_r G_laws_lwInts_rr G_impl_RunDeadline_w G_spec_RunDeadline_w G_spec_DrawRunDeadline_r b16 n10 n11 n12 l14 l15 n15 b17 b18 l16 l17 n13 n14 (fun n13 n14 => AG [(some (AV.sc (SV.slc 1 none b16))), (some (AV.sc (SV.int IntKind.i64 n10))), (some (AV.sc (SV.ptr 2 0 0))), (some (AV.sc (SV.int IntKind.i64 n11))), (some (AV.sc (SV.int IntKind.i64 n12))), (some (AV.sc (SV.int IntKind.i64 n13))), (some (AV.sc (SV.int IntKind.i64 n14)))] [(some (HE.mk true (HB.rows (B.u8 l14)))), (some (HE.mk false (HB.rows (B.iRtTask l15)))), (some (HE.mk false (HB.exp none [(SV.int IntKind.i64 n15), (SV.slc 3 none b17), (SV.slc 4 none b18)]))), (some (HE.mk false (HB.rows (B.i64 l16)))), (some (HE.mk false (HB.rows (B.i64 l17))))])  (fun n17 => KL Ex.normal [(some (AV.sc (SV.slc 1 none b16))), (some (AV.sc (SV.int IntKind.i64 n10))), (some (AV.sc (SV.ptr 2 0 0))), (some (AV.sc (SV.int IntKind.i64 n11))), (some (AV.sc (SV.int IntKind.i64 n12))), (some (AV.sc (SV.int IntKind.i64 n17)))] [(some (HE.mk true (HB.rows (B.u8 l14)))), (some (HE.mk false (HB.rows (B.iRtTask l15)))), (some (HE.mk false (HB.exp none [(SV.int IntKind.i64 n15), (SV.slc 3 none b17), (SV.slc 4 none b18)]))), (some (HE.mk false (HB.rows (B.i64 l16)))), (some (HE.mk false (HB.rows (B.i64 l17))))]) := by kernel_rfl
theorem se_laws_FnDeadlines_r_4 (N : Nat) {R : Type} (b16 : Bool) (n10 : Int) (n11 : Int) (n12 : Int) (l14 : List Int) (l15 : List RtTask) (n15 : Int) (b17 : Bool) (b18 : Bool) (l16 : List Int) (l17 : List Int) (n13 : Int) (n14 : Int) (AG : List (Option AV) → Hp E → Option R) (KL : Ex → List (Option AV) → Hp E → Option R) :
    iterStep (E := E) (O_laws_FnDeadlines_r N) (fun {R} => LI (noIt) 1 120 sl_laws_FnDeadlines_r (R := R)) J_laws_FnDeadlines_r 1 120 4 [3, 4, 6, 7, 8, 9, 10] [3, 4, 6, 7, 8, 9] (body Try.f3 4) AG KL [(some (AV.sc (SV.slc 1 none b16))), (some (AV.sc (SV.int IntKind.i64 n10))), (some (AV.sc (SV.ptr 2 0 0))), (some (AV.sc (SV.int IntKind.i64 n11))), (some (AV.sc (SV.int IntKind.i64 n12))), (some (AV.sc (SV.int IntKind.i64 n13))), (some (AV.sc (SV.int IntKind.i64 n14)))] [(some (HE.mk true (HB.rows (B.u8 l14)))), (some (HE.mk false (HB.rows (B.iRtTask l15)))), (some (HE.mk false (HB.exp none [(SV.int IntKind.i64 n15), (SV.slc 3 none b17), (SV.slc 4 none b18)]))), (some (HE.mk false (HB.rows (B.i64 l16)))), (some (HE.mk false (HB.rows (B.i64 l17))))] =
      s_laws_FnDeadlines_r_4 N b16 n10 n11 n12 l14 l15 n15 b17 b18 l16 l17 n13 n14 (fun n13 n14 => AG [(some (AV.sc (SV.slc 1 none b16))), (some (AV.sc (SV.int IntKind.i64 n10))), (some (AV.sc (SV.ptr 2 0 0))), (some (AV.sc (SV.int IntKind.i64 n11))), (some (AV.sc (SV.int IntKind.i64 n12))), (some (AV.sc (SV.int IntKind.i64 n13))), (some (AV.sc (SV.int IntKind.i64 n14)))] [(some (HE.mk true (HB.rows (B.u8 l14)))), (some (HE.mk false (HB.rows (B.iRtTask l15)))), (some (HE.mk false (HB.exp none [(SV.int IntKind.i64 n15), (SV.slc 3 none b17), (SV.slc 4 none b18)]))), (some (HE.mk false (HB.rows (B.i64 l16)))), (some (HE.mk false (HB.rows (B.i64 l17))))])  (fun n17 => KL Ex.normal [(some (AV.sc (SV.slc 1 none b16))), (some (AV.sc (SV.int IntKind.i64 n10))), (some (AV.sc (SV.ptr 2 0 0))), (some (AV.sc (SV.int IntKind.i64 n11))), (some (AV.sc (SV.int IntKind.i64 n12))), (some (AV.sc (SV.int IntKind.i64 n17)))] [(some (HE.mk true (HB.rows (B.u8 l14)))), (some (HE.mk false (HB.rows (B.iRtTask l15)))), (some (HE.mk false (HB.exp none [(SV.int IntKind.i64 n15), (SV.slc 3 none b17), (SV.slc 4 none b18)]))), (some (HE.mk false (HB.rows (B.i64 l16)))), (some (HE.mk false (HB.rows (B.i64 l17))))]) := castPr (by kernel_rfl) (ea_se_laws_FnDeadlines_r_4 N (g_spec_Admit_r N) (g_impl_Admit_r N) (g_laws_lwInts_rr N) (g_impl_RunDeadline_w N) (g_spec_RunDeadline_w N) (g_spec_DrawRunDeadline_r N) b16 n10 n11 n12 l14 l15 n15 b17 b18 l16 l17 n13 n14 AG KL)
theorem le_laws_FnDeadlines_r_4 (N : Nat) {R : Type} (b16 : Bool) (n10 : Int) (n11 : Int) (n12 : Int) (l14 : List Int) (l15 : List RtTask) (n15 : Int) (b17 : Bool) (b18 : Bool) (l16 : List Int) (l17 : List Int) (KL : Ex → List (Option AV) → Hp E → Option R) : ∀ (f : Nat), ∀ (n13 : Int) (n14 : Int), iterK (E := E) (O_laws_FnDeadlines_r N) (fun {R} => LI (noIt) 1 120 sl_laws_FnDeadlines_r (R := R)) J_laws_FnDeadlines_r 1 120 4 [3, 4, 6, 7, 8, 9, 10] [3, 4, 6, 7, 8, 9] (body Try.f3 4) f [(some (AV.sc (SV.slc 1 none b16))), (some (AV.sc (SV.int IntKind.i64 n10))), (some (AV.sc (SV.ptr 2 0 0))), (some (AV.sc (SV.int IntKind.i64 n11))), (some (AV.sc (SV.int IntKind.i64 n12))), (some (AV.sc (SV.int IntKind.i64 n13))), (some (AV.sc (SV.int IntKind.i64 n14)))] [(some (HE.mk true (HB.rows (B.u8 l14)))), (some (HE.mk false (HB.rows (B.iRtTask l15)))), (some (HE.mk false (HB.exp none [(SV.int IntKind.i64 n15), (SV.slc 3 none b17), (SV.slc 4 none b18)]))), (some (HE.mk false (HB.rows (B.i64 l16)))), (some (HE.mk false (HB.rows (B.i64 l17))))] KL = l_laws_FnDeadlines_r_4 N b16 n10 n11 n12 l14 l15 n15 b17 b18 l16 l17 (fun n17 => KL Ex.normal [(some (AV.sc (SV.slc 1 none b16))), (some (AV.sc (SV.int IntKind.i64 n10))), (some (AV.sc (SV.ptr 2 0 0))), (some (AV.sc (SV.int IntKind.i64 n11))), (some (AV.sc (SV.int IntKind.i64 n12))), (some (AV.sc (SV.int IntKind.i64 n17)))] [(some (HE.mk true (HB.rows (B.u8 l14)))), (some (HE.mk false (HB.rows (B.iRtTask l15)))), (some (HE.mk false (HB.exp none [(SV.int IntKind.i64 n15), (SV.slc 3 none b17), (SV.slc 4 none b18)]))), (some (HE.mk false (HB.rows (B.i64 l16)))), (some (HE.mk false (HB.rows (B.i64 l17))))]) f n13 n14 := by
  intro f
  induction f with
  | zero => intros; rfl
  | succ f ih =>
    intro n13 n14
    rw [iterK_succ, se_laws_FnDeadlines_r_4]
    exact (congrArg (fun z0 => s_laws_FnDeadlines_r_4 N b16 n10 n11 n12 l14 l15 n15 b17 b18 l16 l17 n13 n14 z0 (fun n17 => KL Ex.normal [(some (AV.sc (SV.slc 1 none b16))), (some (AV.sc (SV.int IntKind.i64 n10))), (some (AV.sc (SV.ptr 2 0 0))), (some (AV.sc (SV.int IntKind.i64 n11))), (some (AV.sc (SV.int IntKind.i64 n12))), (some (AV.sc (SV.int IntKind.i64 n17)))] [(some (HE.mk true (HB.rows (B.u8 l14)))), (some (HE.mk false (HB.rows (B.iRtTask l15)))), (some (HE.mk false (HB.exp none [(SV.int IntKind.i64 n15), (SV.slc 3 none b17), (SV.slc 4 none b18)]))), (some (HE.mk false (HB.rows (B.i64 l16)))), (some (HE.mk false (HB.rows (B.i64 l17))))])) (funext fun n13 => funext fun n14 => ih n13 n14))
noncomputable def i_laws_FnDeadlines_r_4 (N : Nat) {R : Type} (vs : List (Option AV)) (H : Hp E) (KL : Ex → List (Option AV) → Hp E → Option R) : Option R :=
 match vs, H with
 | [(some (AV.sc (SV.slc 1 none b16))), (some (AV.sc (SV.int IntKind.i64 n10))), (some (AV.sc (SV.ptr 2 0 0))), (some (AV.sc (SV.int IntKind.i64 n11))), (some (AV.sc (SV.int IntKind.i64 n12))), (some (AV.sc (SV.int IntKind.i64 n13))), (some (AV.sc (SV.int IntKind.i64 n14)))], [(some (HE.mk true (HB.rows (B.u8 l14)))), (some (HE.mk false (HB.rows (B.iRtTask l15)))), (some (HE.mk false (HB.exp none [(SV.int IntKind.i64 n15), (SV.slc 3 none b17), (SV.slc 4 none b18)]))), (some (HE.mk false (HB.rows (B.i64 l16)))), (some (HE.mk false (HB.rows (B.i64 l17))))] => c_laws_FnDeadlines_r_4 N b16 n10 n11 n12 l14 l15 n15 b17 b18 l16 l17 n13 n14 (fun n18 => KL Ex.normal [(some (AV.sc (SV.slc 1 none b16))), (some (AV.sc (SV.int IntKind.i64 n10))), (some (AV.sc (SV.ptr 2 0 0))), (some (AV.sc (SV.int IntKind.i64 n11))), (some (AV.sc (SV.int IntKind.i64 n12))), (some (AV.sc (SV.int IntKind.i64 n18)))] [(some (HE.mk true (HB.rows (B.u8 l14)))), (some (HE.mk false (HB.rows (B.iRtTask l15)))), (some (HE.mk false (HB.exp none [(SV.int IntKind.i64 n15), (SV.slc 3 none b17), (SV.slc 4 none b18)]))), (some (HE.mk false (HB.rows (B.i64 l16)))), (some (HE.mk false (HB.rows (B.i64 l17))))])
 | _, _ => none
noncomputable def IT_laws_FnDeadlines_r_4 (N : Nat) : Its E := addIt 4 (i_laws_FnDeadlines_r_4 N) (noIt)
theorem IT_laws_FnDeadlines_r_4_ok (N : Nat) : ItOk (IT_laws_FnDeadlines_r_4 N) 1 120 sl_laws_FnDeadlines_r (lsB Try.f3 [4]) :=
  addItB_ok (inner := []) ok (O_laws_FnDeadlines_r_ok N) (jn_ok _ _ _) (noIt_ok) rfl (by kernel_rfl) rfl fun vs H KL r h => by
    unfold i_laws_FnDeadlines_r_4 at h
    split at h
    · exact ⟨_, (le_laws_FnDeadlines_r_4 N _ _ _ _ _ _ _ _ _ _ _ KL N _ _).trans h⟩
    · cases h
noncomputable def s_laws_FnDeadlines_r_2 (N : Nat) {R : Type} (b13 : Bool) (n6 : Int) (n7 : Int) (l10 : List Int) (l11 : List RtTask) (n9 : Int) (b14 : Bool) (b15 : Bool) (l12 : List Int) (l13 : List Int) (n8 : Int) (ag : Int → Option R)  (kR : Option R) (kN : Option R) : Option R :=
 (cond ((decide (((0 : Int) ≤ n7))) && (decide ((n7 < (((List.length l11) : Nat) : Int)))))
 (elemK l11 (Int.toNat n7) fun x2 =>
 (cond (decide (((IntKind.wrap IntKind.i64 (n8 + (RtTask.fPeriod x2))) ≤ n6)))
 (c_laws_FnDeadlines_r_4 N b13 n6 n7 n8 l10 l11 n9 b14 b15 l12 l13 (0 : Int) n8 fun n16 =>
 (cond ((decide (((0 : Int) ≤ n7))) && (decide ((n7 < (((List.length l11) : Nat) : Int)))))
 (elemK l11 (Int.toNat n7) fun x5 =>
 (cond (n16 != (RtTask.fBudget x5))
 kR
 (cond ((decide (((0 : Int) ≤ n7))) && (decide ((n7 < (((List.length l11) : Nat) : Int)))))
 (elemK l11 (Int.toNat n7) fun x6 =>
 (ag (IntKind.wrap IntKind.i64 (n8 + (RtTask.fPeriod x6)))))
 none)))
 none))
 kN))
 none)
noncomputable def ga_s_laws_FnDeadlines_r_2 (N : Nat) (G_spec_Admit_r : ∀ {R : Type} (b : Bool) (l : List RtTask) (k : Bool → Option R), Option R) (G_impl_Admit_r : ∀ {R : Type} (b : Bool) (l : List RtTask) (k : Bool → Option R), Option R) (G_laws_lwInts_rr : ∀ {R : Type} (b : Bool) (b1 : Bool) (l : List Int) (l1 : List Int) (k : Bool → Option R), Option R) (G_impl_RunDeadline_w : ∀ {R : Type} (b : Bool) (n : Int) (l : List RtTask) (k : Int → Bool → Bool → (List Int) → (List Int) → Option R), Option R) (G_spec_RunDeadline_w : ∀ {R : Type} (b : Bool) (n : Int) (l : List RtTask) (k : Int → Bool → Bool → (List Int) → (List Int) → Option R), Option R) (G_spec_DrawRunDeadline_r : ∀ {R : Type} (b : Bool) (l : List Int) (k : Bool → Int → (List RtTask) → Option R), Option R) {R : Type} (b13 : Bool) (n6 : Int) (n7 : Int) (l10 : List Int) (l11 : List RtTask) (n9 : Int) (b14 : Bool) (b15 : Bool) (l12 : List Int) (l13 : List Int) (n8 : Int) (ag : Int → Option R)  (kR : Option R) (kN : Option R) : Option R :=
 (cond ((decide (((0 : Int) ≤ n7))) && (decide ((n7 < (((List.length l11) : Nat) : Int)))))
 (elemK l11 (Int.toNat n7) fun x2 =>
 (cond (decide (((IntKind.wrap IntKind.i64 (n8 + (RtTask.fPeriod x2))) ≤ n6)))
 (c_laws_FnDeadlines_r_4 N b13 n6 n7 n8 l10 l11 n9 b14 b15 l12 l13 (0 : Int) n8 fun n16 =>
 (cond ((decide (((0 : Int) ≤ n7))) && (decide ((n7 < (((List.length l11) : Nat) : Int)))))
 (elemK l11 (Int.toNat n7) fun x5 =>
 (cond (n16 != (RtTask.fBudget x5))
 kR
 (cond ((decide (((0 : Int) ≤ n7))) && (decide ((n7 < (((List.length l11) : Nat) : Int)))))
 (elemK l11 (Int.toNat n7) fun x6 =>
 (ag (IntKind.wrap IntKind.i64 (n8 + (RtTask.fPeriod x6)))))
 none)))
 none))
 kN))
 none)
noncomputable def l_laws_FnDeadlines_r_2 (N : Nat) {R : Type} (b13 : Bool) (n6 : Int) (n7 : Int) (l10 : List Int) (l11 : List RtTask) (n9 : Int) (b14 : Bool) (b15 : Bool) (l12 : List Int) (l13 : List Int) (kR : Option R) (kN : Option R) : Nat → Int → Option R
 | 0, _ => none
 | f + 1, n8 => s_laws_FnDeadlines_r_2 N b13 n6 n7 l10 l11 n9 b14 b15 l12 l13 n8 (fun n8 => l_laws_FnDeadlines_r_2 N b13 n6 n7 l10 l11 n9 b14 b15 l12 l13 kR kN f n8)  kR kN
noncomputable def c_laws_FnDeadlines_r_2 (N : Nat) {R : Type} (b13 : Bool) (n6 : Int) (n7 : Int) (l10 : List Int) (l11 : List RtTask) (n9 : Int) (b14 : Bool) (b15 : Bool) (l12 : List Int) (l13 : List Int) (n8 : Int) (kR : Option R) (kN : Option R) : Option R := l_laws_FnDeadlines_r_2 N b13 n6 n7 l10 l11 n9 b14 b15 l12 l13 kR kN N n8
theorem ea_se_laws_FnDeadlines_r_2 (N : Nat) (G_spec_Admit_r : ∀ {R : Type} (b : Bool) (l : List RtTask) (k : Bool → Option R), Option R) (G_impl_Admit_r : ∀ {R : Type} (b : Bool) (l : List RtTask) (k : Bool → Option R), Option R) (G_laws_lwInts_rr : ∀ {R : Type} (b : Bool) (b1 : Bool) (l : List Int) (l1 : List Int) (k : Bool → Option R), Option R) (G_impl_RunDeadline_w : ∀ {R : Type} (b : Bool) (n : Int) (l : List RtTask) (k : Int → Bool → Bool → (List Int) → (List Int) → Option R), Option R) (G_spec_RunDeadline_w : ∀ {R : Type} (b : Bool) (n : Int) (l : List RtTask) (k : Int → Bool → Bool → (List Int) → (List Int) → Option R), Option R) (G_spec_DrawRunDeadline_r : ∀ {R : Type} (b : Bool) (l : List Int) (k : Bool → Int → (List RtTask) → Option R), Option R) {R : Type} (b13 : Bool) (n6 : Int) (n7 : Int) (l10 : List Int) (l11 : List RtTask) (n9 : Int) (b14 : Bool) (b15 : Bool) (l12 : List Int) (l13 : List Int) (n8 : Int) (AG : List (Option AV) → Hp E → Option R) (KL : Ex → List (Option AV) → Hp E → Option R) :
    iterStep (E := E) (OA_laws_FnDeadlines_r N G_spec_Admit_r G_impl_Admit_r G_laws_lwInts_rr G_impl_RunDeadline_w G_spec_RunDeadline_w G_spec_DrawRunDeadline_r) (fun {R} => LI (IT_laws_FnDeadlines_r_4 N) 1 120 sl_laws_FnDeadlines_r (R := R)) J_laws_FnDeadlines_r 1 120 2 [3, 4, 6, 7, 8] [2, 3, 4, 6, 7] (body Try.f3 2) AG KL [(some (AV.sc (SV.slc 1 none b13))), (some (AV.sc (SV.int IntKind.i64 n6))), (some (AV.sc (SV.ptr 2 0 0))), (some (AV.sc (SV.int IntKind.i64 n7))), (some (AV.sc (SV.int IntKind.i64 n8)))] [(some (HE.mk true (HB.rows (B.u8 l10)))), (some (HE.mk false (HB.rows (B.iRtTask l11)))), (some (HE.mk false (HB.exp none [(SV.int IntKind.i64 n9), (SV.slc 3 none b14), (SV.slc 4 none b15)]))), (some (HE.mk false (HB.rows (B.i64 l12)))), (some (HE.mk false (HB.rows (B.i64 l13))))] =
      ga_s_laws_FnDeadlines_r_2 N G_spec_Admit_r G_impl_Admit_r G_laws_lwInts_rr G_impl_RunDeadline_w G_spec_RunDeadline_w G_spec_DrawRunDeadline_r b13 n6 n7 l10 l11 n9 b14 b15 l12 l13 n8 (fun n8 => AG [(some (AV.sc (SV.slc 1 none b13))), (some (AV.sc (SV.int IntKind.i64 n6))), (some (AV.sc (SV.ptr 2 0 0))), (some (AV.sc (SV.int IntKind.i64 n7))), (some (AV.sc (SV.int IntKind.i64 n8)))] [(some (HE.mk true (HB.rows (B.u8 l10)))), (some (HE.mk false (HB.rows (B.iRtTask l11)))), (some (HE.mk false (HB.exp none [(SV.int IntKind.i64 n9), (SV.slc 3 none b14), (SV.slc 4 none b15)]))), (some (HE.mk false (HB.rows (B.i64 l12)))), (some (HE.mk false (HB.rows (B.i64 l13))))])  (KL Ex.ret [(some (AV.sc (SV.bool false))), (some (AV.sc (SV.slc 1 none b13))), (some (AV.sc (SV.int IntKind.i64 n6))), (some (AV.sc (SV.ptr 2 0 0))), (some (AV.sc (SV.int IntKind.i64 n7)))] [(some (HE.mk true (HB.rows (B.u8 l10)))), (some (HE.mk false (HB.rows (B.iRtTask l11)))), (some (HE.mk false (HB.exp none [(SV.int IntKind.i64 n9), (SV.slc 3 none b14), (SV.slc 4 none b15)]))), (some (HE.mk false (HB.rows (B.i64 l12)))), (some (HE.mk false (HB.rows (B.i64 l13))))]) (KL Ex.normal [none, (some (AV.sc (SV.slc 1 none b13))), (some (AV.sc (SV.int IntKind.i64 n6))), (some (AV.sc (SV.ptr 2 0 0))), (some (AV.sc (SV.int IntKind.i64 n7)))] [(some (HE.mk true (HB.rows (B.u8 l10)))), (some (HE.mk false (HB.rows (B.iRtTask l11)))), (some (HE.mk false (HB.exp none [(SV.int IntKind.i64 n9), (SV.slc 3 none b14), (SV.slc 4 none b15)]))), (some (HE.mk false (HB.rows (B.i64 l12)))), (some (HE.mk false (HB.rows (B.i64 l13))))]) := by kernel_rfl
theorem se_laws_FnDeadlines_r_2 (N : Nat) {R : Type} (b13 : Bool) (n6 : Int) (n7 : Int) (l10 : List Int) (l11 : List RtTask) (n9 : Int) (b14 : Bool) (b15 : Bool) (l12 : List Int) (l13 : List Int) (n8 : Int) (AG : List (Option AV) → Hp E → Option R) (KL : Ex → List (Option AV) → Hp E → Option R) :
    iterStep (E := E) (O_laws_FnDeadlines_r N) (fun {R} => LI (IT_laws_FnDeadlines_r_4 N) 1 120 sl_laws_FnDeadlines_r (R := R)) J_laws_FnDeadlines_r 1 120 2 [3, 4, 6, 7, 8] [2, 3, 4, 6, 7] (body Try.f3 2) AG KL [(some (AV.sc (SV.slc 1 none b13))), (some (AV.sc (SV.int IntKind.i64 n6))), (some (AV.sc (SV.ptr 2 0 0))), (some (AV.sc (SV.int IntKind.i64 n7))), (some (AV.sc (SV.int IntKind.i64 n8)))] [(some (HE.mk true (HB.rows (B.u8 l10)))), (some (HE.mk false (HB.rows (B.iRtTask l11)))), (some (HE.mk false (HB.exp none [(SV.int IntKind.i64 n9), (SV.slc 3 none b14), (SV.slc 4 none b15)]))), (some (HE.mk false (HB.rows (B.i64 l12)))), (some (HE.mk false (HB.rows (B.i64 l13))))] =
      s_laws_FnDeadlines_r_2 N b13 n6 n7 l10 l11 n9 b14 b15 l12 l13 n8 (fun n8 => AG [(some (AV.sc (SV.slc 1 none b13))), (some (AV.sc (SV.int IntKind.i64 n6))), (some (AV.sc (SV.ptr 2 0 0))), (some (AV.sc (SV.int IntKind.i64 n7))), (some (AV.sc (SV.int IntKind.i64 n8)))] [(some (HE.mk true (HB.rows (B.u8 l10)))), (some (HE.mk false (HB.rows (B.iRtTask l11)))), (some (HE.mk false (HB.exp none [(SV.int IntKind.i64 n9), (SV.slc 3 none b14), (SV.slc 4 none b15)]))), (some (HE.mk false (HB.rows (B.i64 l12)))), (some (HE.mk false (HB.rows (B.i64 l13))))])  (KL Ex.ret [(some (AV.sc (SV.bool false))), (some (AV.sc (SV.slc 1 none b13))), (some (AV.sc (SV.int IntKind.i64 n6))), (some (AV.sc (SV.ptr 2 0 0))), (some (AV.sc (SV.int IntKind.i64 n7)))] [(some (HE.mk true (HB.rows (B.u8 l10)))), (some (HE.mk false (HB.rows (B.iRtTask l11)))), (some (HE.mk false (HB.exp none [(SV.int IntKind.i64 n9), (SV.slc 3 none b14), (SV.slc 4 none b15)]))), (some (HE.mk false (HB.rows (B.i64 l12)))), (some (HE.mk false (HB.rows (B.i64 l13))))]) (KL Ex.normal [none, (some (AV.sc (SV.slc 1 none b13))), (some (AV.sc (SV.int IntKind.i64 n6))), (some (AV.sc (SV.ptr 2 0 0))), (some (AV.sc (SV.int IntKind.i64 n7)))] [(some (HE.mk true (HB.rows (B.u8 l10)))), (some (HE.mk false (HB.rows (B.iRtTask l11)))), (some (HE.mk false (HB.exp none [(SV.int IntKind.i64 n9), (SV.slc 3 none b14), (SV.slc 4 none b15)]))), (some (HE.mk false (HB.rows (B.i64 l12)))), (some (HE.mk false (HB.rows (B.i64 l13))))]) := castPr (by kernel_rfl) (ea_se_laws_FnDeadlines_r_2 N (g_spec_Admit_r N) (g_impl_Admit_r N) (g_laws_lwInts_rr N) (g_impl_RunDeadline_w N) (g_spec_RunDeadline_w N) (g_spec_DrawRunDeadline_r N) b13 n6 n7 l10 l11 n9 b14 b15 l12 l13 n8 AG KL)
theorem le_laws_FnDeadlines_r_2 (N : Nat) {R : Type} (b13 : Bool) (n6 : Int) (n7 : Int) (l10 : List Int) (l11 : List RtTask) (n9 : Int) (b14 : Bool) (b15 : Bool) (l12 : List Int) (l13 : List Int) (KL : Ex → List (Option AV) → Hp E → Option R) : ∀ (f : Nat), ∀ (n8 : Int), iterK (E := E) (O_laws_FnDeadlines_r N) (fun {R} => LI (IT_laws_FnDeadlines_r_4 N) 1 120 sl_laws_FnDeadlines_r (R := R)) J_laws_FnDeadlines_r 1 120 2 [3, 4, 6, 7, 8] [2, 3, 4, 6, 7] (body Try.f3 2) f [(some (AV.sc (SV.slc 1 none b13))), (some (AV.sc (SV.int IntKind.i64 n6))), (some (AV.sc (SV.ptr 2 0 0))), (some (AV.sc (SV.int IntKind.i64 n7))), (some (AV.sc (SV.int IntKind.i64 n8)))] [(some (HE.mk true (HB.rows (B.u8 l10)))), (some (HE.mk false (HB.rows (B.iRtTask l11)))), (some (HE.mk false (HB.exp none [(SV.int IntKind.i64 n9), (SV.slc 3 none b14), (SV.slc 4 none b15)]))), (some (HE.mk false (HB.rows (B.i64 l12)))), (some (HE.mk false (HB.rows (B.i64 l13))))] KL = l_laws_FnDeadlines_r_2 N b13 n6 n7 l10 l11 n9 b14 b15 l12 l13 (KL Ex.ret [(some (AV.sc (SV.bool false))), (some (AV.sc (SV.slc 1 none b13))), (some (AV.sc (SV.int IntKind.i64 n6))), (some (AV.sc (SV.ptr 2 0 0))), (some (AV.sc (SV.int IntKind.i64 n7)))] [(some (HE.mk true (HB.rows (B.u8 l10)))), (some (HE.mk false (HB.rows (B.iRtTask l11)))), (some (HE.mk false (HB.exp none [(SV.int IntKind.i64 n9), (SV.slc 3 none b14), (SV.slc 4 none b15)]))), (some (HE.mk false (HB.rows (B.i64 l12)))), (some (HE.mk false (HB.rows (B.i64 l13))))]) (KL Ex.normal [none, (some (AV.sc (SV.slc 1 none b13))), (some (AV.sc (SV.int IntKind.i64 n6))), (some (AV.sc (SV.ptr 2 0 0))), (some (AV.sc (SV.int IntKind.i64 n7)))] [(some (HE.mk true (HB.rows (B.u8 l10)))), (some (HE.mk false (HB.rows (B.iRtTask l11)))), (some (HE.mk false (HB.exp none [(SV.int IntKind.i64 n9), (SV.slc 3 none b14), (SV.slc 4 none b15)]))), (some (HE.mk false (HB.rows (B.i64 l12)))), (some (HE.mk false (HB.rows (B.i64 l13))))]) f n8 := by
  intro f
  induction f with
  | zero => intros; rfl
  | succ f ih =>
    intro n8
    rw [iterK_succ, se_laws_FnDeadlines_r_2]
    exact (congrArg (fun z0 => s_laws_FnDeadlines_r_2 N b13 n6 n7 l10 l11 n9 b14 b15 l12 l13 n8 z0 (KL Ex.ret [(some (AV.sc (SV.bool false))), (some (AV.sc (SV.slc 1 none b13))), (some (AV.sc (SV.int IntKind.i64 n6))), (some (AV.sc (SV.ptr 2 0 0))), (some (AV.sc (SV.int IntKind.i64 n7)))] [(some (HE.mk true (HB.rows (B.u8 l10)))), (some (HE.mk false (HB.rows (B.iRtTask l11)))), (some (HE.mk false (HB.exp none [(SV.int IntKind.i64 n9), (SV.slc 3 none b14), (SV.slc 4 none b15)]))), (some (HE.mk false (HB.rows (B.i64 l12)))), (some (HE.mk false (HB.rows (B.i64 l13))))]) (KL Ex.normal [none, (some (AV.sc (SV.slc 1 none b13))), (some (AV.sc (SV.int IntKind.i64 n6))), (some (AV.sc (SV.ptr 2 0 0))), (some (AV.sc (SV.int IntKind.i64 n7)))] [(some (HE.mk true (HB.rows (B.u8 l10)))), (some (HE.mk false (HB.rows (B.iRtTask l11)))), (some (HE.mk false (HB.exp none [(SV.int IntKind.i64 n9), (SV.slc 3 none b14), (SV.slc 4 none b15)]))), (some (HE.mk false (HB.rows (B.i64 l12)))), (some (HE.mk false (HB.rows (B.i64 l13))))])) (funext fun n8 => ih n8))
noncomputable def i_laws_FnDeadlines_r_2 (N : Nat) {R : Type} (vs : List (Option AV)) (H : Hp E) (KL : Ex → List (Option AV) → Hp E → Option R) : Option R :=
 match vs, H with
 | [(some (AV.sc (SV.slc 1 none b13))), (some (AV.sc (SV.int IntKind.i64 n6))), (some (AV.sc (SV.ptr 2 0 0))), (some (AV.sc (SV.int IntKind.i64 n7))), (some (AV.sc (SV.int IntKind.i64 n8)))], [(some (HE.mk true (HB.rows (B.u8 l10)))), (some (HE.mk false (HB.rows (B.iRtTask l11)))), (some (HE.mk false (HB.exp none [(SV.int IntKind.i64 n9), (SV.slc 3 none b14), (SV.slc 4 none b15)]))), (some (HE.mk false (HB.rows (B.i64 l12)))), (some (HE.mk false (HB.rows (B.i64 l13))))] => c_laws_FnDeadlines_r_2 N b13 n6 n7 l10 l11 n9 b14 b15 l12 l13 n8 (KL Ex.ret [(some (AV.sc (SV.bool false))), (some (AV.sc (SV.slc 1 none b13))), (some (AV.sc (SV.int IntKind.i64 n6))), (some (AV.sc (SV.ptr 2 0 0))), (some (AV.sc (SV.int IntKind.i64 n7)))] [(some (HE.mk true (HB.rows (B.u8 l10)))), (some (HE.mk false (HB.rows (B.iRtTask l11)))), (some (HE.mk false (HB.exp none [(SV.int IntKind.i64 n9), (SV.slc 3 none b14), (SV.slc 4 none b15)]))), (some (HE.mk false (HB.rows (B.i64 l12)))), (some (HE.mk false (HB.rows (B.i64 l13))))]) (KL Ex.normal [none, (some (AV.sc (SV.slc 1 none b13))), (some (AV.sc (SV.int IntKind.i64 n6))), (some (AV.sc (SV.ptr 2 0 0))), (some (AV.sc (SV.int IntKind.i64 n7)))] [(some (HE.mk true (HB.rows (B.u8 l10)))), (some (HE.mk false (HB.rows (B.iRtTask l11)))), (some (HE.mk false (HB.exp none [(SV.int IntKind.i64 n9), (SV.slc 3 none b14), (SV.slc 4 none b15)]))), (some (HE.mk false (HB.rows (B.i64 l12)))), (some (HE.mk false (HB.rows (B.i64 l13))))])
 | _, _ => none
noncomputable def IT_laws_FnDeadlines_r_2 (N : Nat) : Its E := addIt 2 (i_laws_FnDeadlines_r_2 N) (IT_laws_FnDeadlines_r_4 N)
theorem IT_laws_FnDeadlines_r_2_ok (N : Nat) : ItOk (IT_laws_FnDeadlines_r_2 N) 1 120 sl_laws_FnDeadlines_r (lsB Try.f3 [2, 4]) :=
  addItB_ok (inner := [4]) ok (O_laws_FnDeadlines_r_ok N) (jn_ok _ _ _) (IT_laws_FnDeadlines_r_4_ok N) rfl (by kernel_rfl) rfl fun vs H KL r h => by
    unfold i_laws_FnDeadlines_r_2 at h
    split at h
    · exact ⟨_, (le_laws_FnDeadlines_r_2 N _ _ _ _ _ _ _ _ _ _ KL N _).trans h⟩
    · cases h
noncomputable def s_laws_FnDeadlines_r_0 (N : Nat) {R : Type} (b10 : Bool) (n3 : Int) (l6 : List Int) (l7 : List RtTask) (n5 : Int) (b11 : Bool) (b12 : Bool) (l8 : List Int) (l9 : List Int) (n4 : Int) (ag : Int → Option R)  (kR : Option R) (kN : Option R) : Option R :=
 (cond (decide ((n4 < (((List.length l7) : Nat) : Int))))
 (cond ((decide (((0 : Int) ≤ n4))) && (decide ((n4 < (((List.length l9) : Nat) : Int)))))
 (elemK l9 (Int.toNat n4) fun x =>
 (cond (x != (0 : Int))
 kR
 (cond ((decide (((0 : Int) ≤ n4))) && (decide ((n4 < (((List.length l7) : Nat) : Int)))))
 (elemK l7 (Int.toNat n4) fun x1 =>
 (c_laws_FnDeadlines_r_2 N b10 n3 n4 l6 l7 n5 b11 b12 l8 l9 (RtTask.fStart x1) (
 kR) (
 (ag (IntKind.wrap IntKind.i64 (n4 + (1 : Int)))))))
 none)))
 none)
 kN)
noncomputable def ga_s_laws_FnDeadlines_r_0 (N : Nat) (G_spec_Admit_r : ∀ {R : Type} (b : Bool) (l : List RtTask) (k : Bool → Option R), Option R) (G_impl_Admit_r : ∀ {R : Type} (b : Bool) (l : List RtTask) (k : Bool → Option R), Option R) (G_laws_lwInts_rr : ∀ {R : Type} (b : Bool) (b1 : Bool) (l : List Int) (l1 : List Int) (k : Bool → Option R), Option R) (G_impl_RunDeadline_w : ∀ {R : Type} (b : Bool) (n : Int) (l : List RtTask) (k : Int → Bool → Bool → (List Int) → (List Int) → Option R), Option R) (G_spec_RunDeadline_w : ∀ {R : Type} (b : Bool) (n : Int) (l : List RtTask) (k : Int → Bool → Bool → (List Int) → (List Int) → Option R), Option R) (G_spec_DrawRunDeadline_r : ∀ {R : Type} (b : Bool) (l : List Int) (k : Bool → Int → (List RtTask) → Option R), Option R) {R : Type} (b10 : Bool) (n3 : Int) (l6 : List Int) (l7 : List RtTask) (n5 : Int) (b11 : Bool) (b12 : Bool) (l8 : List Int) (l9 : List Int) (n4 : Int) (ag : Int → Option R)  (kR : Option R) (kN : Option R) : Option R :=
 (cond (decide ((n4 < (((List.length l7) : Nat) : Int))))
 (cond ((decide (((0 : Int) ≤ n4))) && (decide ((n4 < (((List.length l9) : Nat) : Int)))))
 (elemK l9 (Int.toNat n4) fun x =>
 (cond (x != (0 : Int))
 kR
 (cond ((decide (((0 : Int) ≤ n4))) && (decide ((n4 < (((List.length l7) : Nat) : Int)))))
 (elemK l7 (Int.toNat n4) fun x1 =>
 (c_laws_FnDeadlines_r_2 N b10 n3 n4 l6 l7 n5 b11 b12 l8 l9 (RtTask.fStart x1) (
 kR) (
 (ag (IntKind.wrap IntKind.i64 (n4 + (1 : Int)))))))
 none)))
 none)
 kN)
noncomputable def l_laws_FnDeadlines_r_0 (N : Nat) {R : Type} (b10 : Bool) (n3 : Int) (l6 : List Int) (l7 : List RtTask) (n5 : Int) (b11 : Bool) (b12 : Bool) (l8 : List Int) (l9 : List Int) (kR : Option R) (kN : Option R) : Nat → Int → Option R
 | 0, _ => none
 | f + 1, n4 => s_laws_FnDeadlines_r_0 N b10 n3 l6 l7 n5 b11 b12 l8 l9 n4 (fun n4 => l_laws_FnDeadlines_r_0 N b10 n3 l6 l7 n5 b11 b12 l8 l9 kR kN f n4)  kR kN
noncomputable def c_laws_FnDeadlines_r_0 (N : Nat) {R : Type} (b10 : Bool) (n3 : Int) (l6 : List Int) (l7 : List RtTask) (n5 : Int) (b11 : Bool) (b12 : Bool) (l8 : List Int) (l9 : List Int) (n4 : Int) (kR : Option R) (kN : Option R) : Option R := l_laws_FnDeadlines_r_0 N b10 n3 l6 l7 n5 b11 b12 l8 l9 kR kN N n4
theorem ea_se_laws_FnDeadlines_r_0 (N : Nat) (G_spec_Admit_r : ∀ {R : Type} (b : Bool) (l : List RtTask) (k : Bool → Option R), Option R) (G_impl_Admit_r : ∀ {R : Type} (b : Bool) (l : List RtTask) (k : Bool → Option R), Option R) (G_laws_lwInts_rr : ∀ {R : Type} (b : Bool) (b1 : Bool) (l : List Int) (l1 : List Int) (k : Bool → Option R), Option R) (G_impl_RunDeadline_w : ∀ {R : Type} (b : Bool) (n : Int) (l : List RtTask) (k : Int → Bool → Bool → (List Int) → (List Int) → Option R), Option R) (G_spec_RunDeadline_w : ∀ {R : Type} (b : Bool) (n : Int) (l : List RtTask) (k : Int → Bool → Bool → (List Int) → (List Int) → Option R), Option R) (G_spec_DrawRunDeadline_r : ∀ {R : Type} (b : Bool) (l : List Int) (k : Bool → Int → (List RtTask) → Option R), Option R) {R : Type} (b10 : Bool) (n3 : Int) (l6 : List Int) (l7 : List RtTask) (n5 : Int) (b11 : Bool) (b12 : Bool) (l8 : List Int) (l9 : List Int) (n4 : Int) (AG : List (Option AV) → Hp E → Option R) (KL : Ex → List (Option AV) → Hp E → Option R) :
    iterStep (E := E) (OA_laws_FnDeadlines_r N G_spec_Admit_r G_impl_Admit_r G_laws_lwInts_rr G_impl_RunDeadline_w G_spec_RunDeadline_w G_spec_DrawRunDeadline_r) (fun {R} => LI (IT_laws_FnDeadlines_r_2 N) 1 120 sl_laws_FnDeadlines_r (R := R)) J_laws_FnDeadlines_r 1 120 0 [3, 4, 6, 7] [2] (body Try.f3 0) AG KL [(some (AV.sc (SV.slc 1 none b10))), (some (AV.sc (SV.int IntKind.i64 n3))), (some (AV.sc (SV.ptr 2 0 0))), (some (AV.sc (SV.int IntKind.i64 n4)))] [(some (HE.mk true (HB.rows (B.u8 l6)))), (some (HE.mk false (HB.rows (B.iRtTask l7)))), (some (HE.mk false (HB.exp none [(SV.int IntKind.i64 n5), (SV.slc 3 none b11), (SV.slc 4 none b12)]))), (some (HE.mk false (HB.rows (B.i64 l8)))), (some (HE.mk false (HB.rows (B.i64 l9))))] =
      ga_s_laws_FnDeadlines_r_0 N G_spec_Admit_r G_impl_Admit_r G_laws_lwInts_rr G_impl_RunDeadline_w G_spec_RunDeadline_w G_spec_DrawRunDeadline_r b10 n3 l6 l7 n5 b11 b12 l8 l9 n4 (fun n4 => AG [(some (AV.sc (SV.slc 1 none b10))), (some (AV.sc (SV.int IntKind.i64 n3))), (some (AV.sc (SV.ptr 2 0 0))), (some (AV.sc (SV.int IntKind.i64 n4)))] [(some (HE.mk true (HB.rows (B.u8 l6)))), (some (HE.mk false (HB.rows (B.iRtTask l7)))), (some (HE.mk false (HB.exp none [(SV.int IntKind.i64 n5), (SV.slc 3 none b11), (SV.slc 4 none b12)]))), (some (HE.mk false (HB.rows (B.i64 l8)))), (some (HE.mk false (HB.rows (B.i64 l9))))])  (KL Ex.ret [(some (AV.sc (SV.bool false)))] [(some (HE.mk true (HB.rows (B.u8 l6))))]) (KL Ex.normal [none] [(some (HE.mk true (HB.rows (B.u8 l6))))]) := by kernel_rfl
theorem se_laws_FnDeadlines_r_0 (N : Nat) {R : Type} (b10 : Bool) (n3 : Int) (l6 : List Int) (l7 : List RtTask) (n5 : Int) (b11 : Bool) (b12 : Bool) (l8 : List Int) (l9 : List Int) (n4 : Int) (AG : List (Option AV) → Hp E → Option R) (KL : Ex → List (Option AV) → Hp E → Option R) :
    iterStep (E := E) (O_laws_FnDeadlines_r N) (fun {R} => LI (IT_laws_FnDeadlines_r_2 N) 1 120 sl_laws_FnDeadlines_r (R := R)) J_laws_FnDeadlines_r 1 120 0 [3, 4, 6, 7] [2] (body Try.f3 0) AG KL [(some (AV.sc (SV.slc 1 none b10))), (some (AV.sc (SV.int IntKind.i64 n3))), (some (AV.sc (SV.ptr 2 0 0))), (some (AV.sc (SV.int IntKind.i64 n4)))] [(some (HE.mk true (HB.rows (B.u8 l6)))), (some (HE.mk false (HB.rows (B.iRtTask l7)))), (some (HE.mk false (HB.exp none [(SV.int IntKind.i64 n5), (SV.slc 3 none b11), (SV.slc 4 none b12)]))), (some (HE.mk false (HB.rows (B.i64 l8)))), (some (HE.mk false (HB.rows (B.i64 l9))))] =
      s_laws_FnDeadlines_r_0 N b10 n3 l6 l7 n5 b11 b12 l8 l9 n4 (fun n4 => AG [(some (AV.sc (SV.slc 1 none b10))), (some (AV.sc (SV.int IntKind.i64 n3))), (some (AV.sc (SV.ptr 2 0 0))), (some (AV.sc (SV.int IntKind.i64 n4)))] [(some (HE.mk true (HB.rows (B.u8 l6)))), (some (HE.mk false (HB.rows (B.iRtTask l7)))), (some (HE.mk false (HB.exp none [(SV.int IntKind.i64 n5), (SV.slc 3 none b11), (SV.slc 4 none b12)]))), (some (HE.mk false (HB.rows (B.i64 l8)))), (some (HE.mk false (HB.rows (B.i64 l9))))])  (KL Ex.ret [(some (AV.sc (SV.bool false)))] [(some (HE.mk true (HB.rows (B.u8 l6))))]) (KL Ex.normal [none] [(some (HE.mk true (HB.rows (B.u8 l6))))]) := castPr (by kernel_rfl) (ea_se_laws_FnDeadlines_r_0 N (g_spec_Admit_r N) (g_impl_Admit_r N) (g_laws_lwInts_rr N) (g_impl_RunDeadline_w N) (g_spec_RunDeadline_w N) (g_spec_DrawRunDeadline_r N) b10 n3 l6 l7 n5 b11 b12 l8 l9 n4 AG KL)
theorem le_laws_FnDeadlines_r_0 (N : Nat) {R : Type} (b10 : Bool) (n3 : Int) (l6 : List Int) (l7 : List RtTask) (n5 : Int) (b11 : Bool) (b12 : Bool) (l8 : List Int) (l9 : List Int) (KL : Ex → List (Option AV) → Hp E → Option R) : ∀ (f : Nat), ∀ (n4 : Int), iterK (E := E) (O_laws_FnDeadlines_r N) (fun {R} => LI (IT_laws_FnDeadlines_r_2 N) 1 120 sl_laws_FnDeadlines_r (R := R)) J_laws_FnDeadlines_r 1 120 0 [3, 4, 6, 7] [2] (body Try.f3 0) f [(some (AV.sc (SV.slc 1 none b10))), (some (AV.sc (SV.int IntKind.i64 n3))), (some (AV.sc (SV.ptr 2 0 0))), (some (AV.sc (SV.int IntKind.i64 n4)))] [(some (HE.mk true (HB.rows (B.u8 l6)))), (some (HE.mk false (HB.rows (B.iRtTask l7)))), (some (HE.mk false (HB.exp none [(SV.int IntKind.i64 n5), (SV.slc 3 none b11), (SV.slc 4 none b12)]))), (some (HE.mk false (HB.rows (B.i64 l8)))), (some (HE.mk false (HB.rows (B.i64 l9))))] KL = l_laws_FnDeadlines_r_0 N b10 n3 l6 l7 n5 b11 b12 l8 l9 (KL Ex.ret [(some (AV.sc (SV.bool false)))] [(some (HE.mk true (HB.rows (B.u8 l6))))]) (KL Ex.normal [none] [(some (HE.mk true (HB.rows (B.u8 l6))))]) f n4 := by
  intro f
  induction f with
  | zero => intros; rfl
  | succ f ih =>
    intro n4
    rw [iterK_succ, se_laws_FnDeadlines_r_0]
    exact (congrArg (fun z0 => s_laws_FnDeadlines_r_0 N b10 n3 l6 l7 n5 b11 b12 l8 l9 n4 z0 (KL Ex.ret [(some (AV.sc (SV.bool false)))] [(some (HE.mk true (HB.rows (B.u8 l6))))]) (KL Ex.normal [none] [(some (HE.mk true (HB.rows (B.u8 l6))))])) (funext fun n4 => ih n4))
noncomputable def i_laws_FnDeadlines_r_0 (N : Nat) {R : Type} (vs : List (Option AV)) (H : Hp E) (KL : Ex → List (Option AV) → Hp E → Option R) : Option R :=
 match vs, H with
 | [(some (AV.sc (SV.slc 1 none b10))), (some (AV.sc (SV.int IntKind.i64 n3))), (some (AV.sc (SV.ptr 2 0 0))), (some (AV.sc (SV.int IntKind.i64 n4)))], [(some (HE.mk true (HB.rows (B.u8 l6)))), (some (HE.mk false (HB.rows (B.iRtTask l7)))), (some (HE.mk false (HB.exp none [(SV.int IntKind.i64 n5), (SV.slc 3 none b11), (SV.slc 4 none b12)]))), (some (HE.mk false (HB.rows (B.i64 l8)))), (some (HE.mk false (HB.rows (B.i64 l9))))] => c_laws_FnDeadlines_r_0 N b10 n3 l6 l7 n5 b11 b12 l8 l9 n4 (KL Ex.ret [(some (AV.sc (SV.bool false)))] [(some (HE.mk true (HB.rows (B.u8 l6))))]) (KL Ex.normal [none] [(some (HE.mk true (HB.rows (B.u8 l6))))])
 | _, _ => none
noncomputable def IT_laws_FnDeadlines_r_0 (N : Nat) : Its E := addIt 0 (i_laws_FnDeadlines_r_0 N) (IT_laws_FnDeadlines_r_2 N)
theorem IT_laws_FnDeadlines_r_0_ok (N : Nat) : ItOk (IT_laws_FnDeadlines_r_0 N) 1 120 sl_laws_FnDeadlines_r (lsB Try.f3 [0, 2, 4]) :=
  addItB_ok (inner := [2]) ok (O_laws_FnDeadlines_r_ok N) (jn_ok _ _ _) (IT_laws_FnDeadlines_r_2_ok N) rfl (by kernel_rfl) rfl fun vs H KL r h => by
    unfold i_laws_FnDeadlines_r_0 at h
    split at h
    · exact ⟨_, (le_laws_FnDeadlines_r_0 N _ _ _ _ _ _ _ _ _ KL N _).trans h⟩
    · cases h
noncomputable def g_laws_FnDeadlines_r (N : Nat) {R : Type} (b : Bool) (l : List Int) (k : Bool → Option R) : Option R :=
 (cond (decide (((((List.length l) : Nat) : Int) > (1048576 : Int))))
 (k true)
 (g_spec_DrawRunDeadline_r N b l fun b1 n l1 =>
 (g_spec_RunDeadline_w N b1 n l1 fun n1 b2 b3 l2 l3 =>
 (g_impl_RunDeadline_w N b1 n l1 fun n2 b4 b5 l4 l5 =>
 (oK (cond (n2 != n1)
 (some true)
 (g_laws_lwInts_rr N b4 b2 l4 l2 fun b6 =>
 (cond (!b6)
 (some true)
 (g_impl_Admit_r N b1 l1 fun b7 =>
 (g_spec_Admit_r N b1 l1 fun b8 =>
 (some (!(b7 == b8)))))))) fun j =>
 (cond j
 (k false)
 (oK (cond (n2 != (0 : Int))
 (some true)
 (g_impl_Admit_r N b1 l1 fun b9 =>
 (some (!b9)))) fun j1 =>
 (cond j1
 (k true)
 (cond ((((List.length l5) : Nat) : Int) != (((List.length l1) : Nat) : Int))
 (k false)
 (c_laws_FnDeadlines_r_0 N b1 n l l1 n2 b4 b5 l4 l5 (0 : Int) (
 (k false)) (
 (k true))))))))))))
noncomputable def ga_g_laws_FnDeadlines_r (N : Nat) (G_spec_Admit_r : ∀ {R : Type} (b : Bool) (l : List RtTask) (k : Bool → Option R), Option R) (G_impl_Admit_r : ∀ {R : Type} (b : Bool) (l : List RtTask) (k : Bool → Option R), Option R) (G_laws_lwInts_rr : ∀ {R : Type} (b : Bool) (b1 : Bool) (l : List Int) (l1 : List Int) (k : Bool → Option R), Option R) (G_impl_RunDeadline_w : ∀ {R : Type} (b : Bool) (n : Int) (l : List RtTask) (k : Int → Bool → Bool → (List Int) → (List Int) → Option R), Option R) (G_spec_RunDeadline_w : ∀ {R : Type} (b : Bool) (n : Int) (l : List RtTask) (k : Int → Bool → Bool → (List Int) → (List Int) → Option R), Option R) (G_spec_DrawRunDeadline_r : ∀ {R : Type} (b : Bool) (l : List Int) (k : Bool → Int → (List RtTask) → Option R), Option R) {R : Type} (b : Bool) (l : List Int) (k : Bool → Option R) : Option R :=
 (cond (decide (((((List.length l) : Nat) : Int) > (1048576 : Int))))
 (k true)
 (G_spec_DrawRunDeadline_r b l fun b1 n l1 =>
 (G_spec_RunDeadline_w b1 n l1 fun n1 b2 b3 l2 l3 =>
 (G_impl_RunDeadline_w b1 n l1 fun n2 b4 b5 l4 l5 =>
 (oK (cond (n2 != n1)
 (some true)
 (G_laws_lwInts_rr b4 b2 l4 l2 fun b6 =>
 (cond (!b6)
 (some true)
 (G_impl_Admit_r b1 l1 fun b7 =>
 (G_spec_Admit_r b1 l1 fun b8 =>
 (some (!(b7 == b8)))))))) fun j =>
 (cond j
 (k false)
 (oK (cond (n2 != (0 : Int))
 (some true)
 (G_impl_Admit_r b1 l1 fun b9 =>
 (some (!b9)))) fun j1 =>
 (cond j1
 (k true)
 (cond ((((List.length l5) : Nat) : Int) != (((List.length l1) : Nat) : Int))
 (k false)
 (c_laws_FnDeadlines_r_0 N b1 n l l1 n2 b4 b5 l4 l5 (0 : Int) (
 (k false)) (
 (k true))))))))))))
theorem ea_e_laws_FnDeadlines_r (N : Nat) (G_spec_Admit_r : ∀ {R : Type} (b : Bool) (l : List RtTask) (k : Bool → Option R), Option R) (G_impl_Admit_r : ∀ {R : Type} (b : Bool) (l : List RtTask) (k : Bool → Option R), Option R) (G_laws_lwInts_rr : ∀ {R : Type} (b : Bool) (b1 : Bool) (l : List Int) (l1 : List Int) (k : Bool → Option R), Option R) (G_impl_RunDeadline_w : ∀ {R : Type} (b : Bool) (n : Int) (l : List RtTask) (k : Int → Bool → Bool → (List Int) → (List Int) → Option R), Option R) (G_spec_RunDeadline_w : ∀ {R : Type} (b : Bool) (n : Int) (l : List RtTask) (k : Int → Bool → Bool → (List Int) → (List Int) → Option R), Option R) (G_spec_DrawRunDeadline_r : ∀ {R : Type} (b : Bool) (l : List Int) (k : Bool → Int → (List RtTask) → Option R), Option R) {R : Type} (b : Bool) (l : List Int) (K : AV → Hp E → Option R) :
    runFnI (E := E) (OA_laws_FnDeadlines_r N G_spec_Admit_r G_impl_Admit_r G_laws_lwInts_rr G_impl_RunDeadline_w G_spec_RunDeadline_w G_spec_DrawRunDeadline_r) (IT_laws_FnDeadlines_r_0 N) sl_laws_FnDeadlines_r J_laws_FnDeadlines_r Try.f3 [(AV.sc (SV.slc 0 none b))] [(some (HE.mk true (HB.rows (B.u8 l))))] K =
      ga_g_laws_FnDeadlines_r N G_spec_Admit_r G_impl_Admit_r G_laws_lwInts_rr G_impl_RunDeadline_w G_spec_RunDeadline_w G_spec_DrawRunDeadline_r b l (fun b19 => K (AV.sc (SV.bool b19)) [(some (HE.mk true (HB.rows (B.u8 l))))]) := by kernel_rfl
theorem e_laws_FnDeadlines_r (N : Nat) {R : Type} (b : Bool) (l : List Int) (K : AV → Hp E → Option R) :
    runFnI (E := E) (O_laws_FnDeadlines_r N) (IT_laws_FnDeadlines_r_0 N) sl_laws_FnDeadlines_r J_laws_FnDeadlines_r Try.f3 [(AV.sc (SV.slc 0 none b))] [(some (HE.mk true (HB.rows (B.u8 l))))] K =
      g_laws_FnDeadlines_r N b l (fun b19 => K (AV.sc (SV.bool b19)) [(some (HE.mk true (HB.rows (B.u8 l))))]) := castPr (by kernel_rfl) (ea_e_laws_FnDeadlines_r N (g_spec_Admit_r N) (g_impl_Admit_r N) (g_laws_lwInts_rr N) (g_impl_RunDeadline_w N) (g_spec_RunDeadline_w N) (g_spec_DrawRunDeadline_r N) b l K)
noncomputable def o_laws_FnDeadlines_r (N : Nat) {R : Type} (args : List AV) (H : Hp E) (K : AV → Hp E → Option R) : Option R :=
 match args, H with
 | [(AV.sc (SV.slc 0 none b))], [(some (HE.mk true (HB.rows (B.u8 l))))] => g_laws_FnDeadlines_r N b l (fun b19 => K (AV.sc (SV.bool b19)) [(some (HE.mk true (HB.rows (B.u8 l))))])
 | _, _ => none
theorem o_laws_FnDeadlines_r_ok (N : Nat) : FnOk E 3 (o_laws_FnDeadlines_r N) := by
  intro R args H K r h
  unfold o_laws_FnDeadlines_r at h
  dsimp only at h
  split at h
  · exact fnB_ok (ids := [0, 2, 4]) (top := [0]) ok (O_laws_FnDeadlines_r_ok N) (jn_ok _ _ _) Try.func3 (by kernel_rfl) (IT := IT_laws_FnDeadlines_r_0 N) (sl := sl_laws_FnDeadlines_r) (J := J_laws_FnDeadlines_r) (K := K) (H := [(some (HE.mk true (HB.rows (B.u8 _))))]) (IT_laws_FnDeadlines_r_0_ok N) (by kernel_rfl) rfl ((e_laws_FnDeadlines_r N _ _ K).trans h)
  · cases h
end Go.Sa
