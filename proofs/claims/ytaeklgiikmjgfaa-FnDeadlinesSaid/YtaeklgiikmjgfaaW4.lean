import Derived.Test.YtaeklgiikmjgfaaSpec
import Derived.Test.YtaeklgiikmjgfaaPLb
import Derived.Test.YtaeklgiikmjgfaaW3
set_option linter.all false
namespace Go.Sa
open Go Go.Eng Go.Proofs
set_option maxRecDepth 100000
set_option maxHeartbeats 4000000
/-! ### loop.example/g00038/impl.RunDeadline -/
abbrev sl_impl_RunDeadline_w : SlotT := [(0, ([0, 4, 5, 6, 7, 36, 37], [4, 5])), (2, ([0, 4, 5, 6, 7, 8, 36, 37, 40, 41, 42], [0, 4, 5, 6, 7, 36, 37])), (4, ([0, 4, 5, 6, 7, 11, 36, 37, 87, 88], [0, 4, 5, 6, 7, 11, 36, 37]))]
abbrev J_impl_RunDeadline_w : JT := jn [(3, [(24, .b)]), (13, [(60, .b)]), (22, [(110, .b)])] [(110, [(11, .i .i64)])] []
noncomputable def O_impl_RunDeadline_w (N : Nat) : Orc E := addFn 22 (o_impl_yin N) (addFn 21 (o_impl_ytasksOk_r N) (noFn))
noncomputable def pa_impl_RunDeadline_w__o_impl_yin (N : Nat) (G_impl_yin : ∀ {R : Type} (n : Int) (n1 : Int) (n2 : Int) (k : Bool → Option R), Option R) {R : Type} (args : List AV) (H : Hp E) (K : AV → Hp E → Option R) : Option R :=
 match args, H with
 | [(AV.sc (SV.int IntKind.i64 n)), (AV.sc (SV.int IntKind.i64 n1)), (AV.sc (SV.int IntKind.i64 n2))], [] => G_impl_yin n n1 n2 (fun b => K (AV.sc (SV.bool b)) [])
 | _, _ => none
noncomputable def pa_impl_RunDeadline_w__o_impl_ytasksOk_r (N : Nat) (G_impl_ytasksOk_r : ∀ {R : Type} (b : Bool) (l : List RtTask) (k : Bool → Option R), Option R) {R : Type} (args : List AV) (H : Hp E) (K : AV → Hp E → Option R) : Option R :=
 match args, H with
 | [(AV.sc (SV.slc 0 none b))], [(some (HE.mk true (HB.rows (B.iRtTask l))))] => G_impl_ytasksOk_r b l (fun b2 => K (AV.sc (SV.bool b2)) [(some (HE.mk true (HB.rows (B.iRtTask l))))])
 | _, _ => none
noncomputable def OA_impl_RunDeadline_w (N : Nat) (G_impl_yin : ∀ {R : Type} (n : Int) (n1 : Int) (n2 : Int) (k : Bool → Option R), Option R) (G_impl_ytasksOk_r : ∀ {R : Type} (b : Bool) (l : List RtTask) (k : Bool → Option R), Option R) : Orc E := addFn 22 (pa_impl_RunDeadline_w__o_impl_yin N G_impl_yin) (addFn 21 (pa_impl_RunDeadline_w__o_impl_ytasksOk_r N G_impl_ytasksOk_r) (noFn))
theorem O_impl_RunDeadline_w_ok (N : Nat) : OrcOk (O_impl_RunDeadline_w N) := addFn_ok (o_impl_yin_ok N) (addFn_ok (o_impl_ytasksOk_r_ok N) (noFn_ok))
noncomputable def s_impl_RunDeadline_w_2 (N : Nat) {R : Type} (b10 : Bool) (b11 : Bool) (b12 : Bool) (n5 : Int) (n6 : Int) (n7 : Int) (b13 : Bool) (n8 : Int) (l8 : List RtTask) (n10 : Int) (b14 : Bool) (b15 : Bool) (l9 : List Int) (l10 : List Int) (n11 : Int) (b16 : Bool) (b17 : Bool) (l11 : List Int) (n9 : Int) (l12 : List Int) (l13 : List Int) (l14 : List Int) (ag : Int → (List Int) → (List Int) → (List Int) → Option R)  (kN : (List Int) → (List Int) → (List Int) → Option R) : Option R :=
 (cond (decide ((n9 < n8)))
 (cond ((decide (((0 : Int) ≤ n9))) && (decide ((n9 < (((List.length l8) : Nat) : Int)))))
 (elemK l8 (Int.toNat n9) fun x =>
 (oK (cond (decide ((n5 ≥ (RtTask.fStart x))))
 (cond ((RtTask.fPeriod x) == (0 : Int))
 none
 (some ((Int.tmod (IntKind.wrap IntKind.i64 (n5 - (RtTask.fStart x))) (RtTask.fPeriod x)) == (0 : Int))))
 (some false)) fun j1 =>
 (cond j1
 (cond ((decide (((0 : Int) ≤ n9))) && (decide ((n9 < (((List.length l13) : Nat) : Int)))))
 (elemK l13 (Int.toNat n9) fun x1 =>
 (cond (decide ((x1 > (0 : Int))))
 (cond ((decide (((0 : Int) ≤ n9))) && (decide ((n9 < (((List.length l12) : Nat) : Int)))))
 (elemK l12 (Int.toNat n9) fun x2 =>
 (cond ((decide (((0 : Int) ≤ n9))) && (decide ((n9 < (((List.length l12) : Nat) : Int)))))
 (elemK l12 (Int.toNat n9) fun x3 =>
 (cond (Nat.blt (Int.toNat n9) (List.length l12))
 (cond ((decide (((0 : Int) ≤ n9))) && (decide ((n9 < (((List.length l13) : Nat) : Int)))))
 (elemK l13 (Int.toNat n9) fun x4 =>
 (cond (Nat.blt (Int.toNat n9) (List.length l13))
 (cond ((decide (((0 : Int) ≤ n9))) && (decide ((n9 < (((List.length l14) : Nat) : Int)))))
 (elemK l14 (Int.toNat n9) fun x5 =>
 (cond (Nat.blt (Int.toNat n9) (List.length l14))
 (ag (IntKind.wrap IntKind.i64 (n9 + (1 : Int))) (nset l12 (Int.toNat n9) (IntKind.wrap IntKind.i64 (x2 + (1 : Int)))) (nset l13 (Int.toNat n9) (RtTask.fBudget x)) (nset l14 (Int.toNat n9) (IntKind.wrap IntKind.i64 (n5 + (RtTask.fPeriod x)))))
 none))
 none)
 none))
 none)
 none))
 none))
 none)
 (cond ((decide (((0 : Int) ≤ n9))) && (decide ((n9 < (((List.length l13) : Nat) : Int)))))
 (elemK l13 (Int.toNat n9) fun x6 =>
 (cond (Nat.blt (Int.toNat n9) (List.length l13))
 (cond ((decide (((0 : Int) ≤ n9))) && (decide ((n9 < (((List.length l14) : Nat) : Int)))))
 (elemK l14 (Int.toNat n9) fun x7 =>
 (cond (Nat.blt (Int.toNat n9) (List.length l14))
 (ag (IntKind.wrap IntKind.i64 (n9 + (1 : Int))) l12 (nset l13 (Int.toNat n9) (RtTask.fBudget x)) (nset l14 (Int.toNat n9) (IntKind.wrap IntKind.i64 (n5 + (RtTask.fPeriod x)))))
 none))
 none)
 none))
 none)))
 none)
 (ag (IntKind.wrap IntKind.i64 (n9 + (1 : Int))) l12 l13 l14))))
 none)
 (kN l12 l13 l14))
noncomputable def ga_s_impl_RunDeadline_w_2 (N : Nat) (G_impl_yin : ∀ {R : Type} (n : Int) (n1 : Int) (n2 : Int) (k : Bool → Option R), Option R) (G_impl_ytasksOk_r : ∀ {R : Type} (b : Bool) (l : List RtTask) (k : Bool → Option R), Option R) {R : Type} (b10 : Bool) (b11 : Bool) (b12 : Bool) (n5 : Int) (n6 : Int) (n7 : Int) (b13 : Bool) (n8 : Int) (l8 : List RtTask) (n10 : Int) (b14 : Bool) (b15 : Bool) (l9 : List Int) (l10 : List Int) (n11 : Int) (b16 : Bool) (b17 : Bool) (l11 : List Int) (n9 : Int) (l12 : List Int) (l13 : List Int) (l14 : List Int) (ag : Int → (List Int) → (List Int) → (List Int) → Option R)  (kN : (List Int) → (List Int) → (List Int) → Option R) : Option R :=
 (cond (decide ((n9 < n8)))
 (cond ((decide (((0 : Int) ≤ n9))) && (decide ((n9 < (((List.length l8) : Nat) : Int)))))
 (elemK l8 (Int.toNat n9) fun x =>
 (oK (cond (decide ((n5 ≥ (RtTask.fStart x))))
 (cond ((RtTask.fPeriod x) == (0 : Int))
 none
 (some ((Int.tmod (IntKind.wrap IntKind.i64 (n5 - (RtTask.fStart x))) (RtTask.fPeriod x)) == (0 : Int))))
 (some false)) fun j1 =>
 (cond j1
 (cond ((decide (((0 : Int) ≤ n9))) && (decide ((n9 < (((List.length l13) : Nat) : Int)))))
 (elemK l13 (Int.toNat n9) fun x1 =>
 (cond (decide ((x1 > (0 : Int))))
 (cond ((decide (((0 : Int) ≤ n9))) && (decide ((n9 < (((List.length l12) : Nat) : Int)))))
 (elemK l12 (Int.toNat n9) fun x2 =>
 (cond ((decide (((0 : Int) ≤ n9))) && (decide ((n9 < (((List.length l12) : Nat) : Int)))))
 (elemK l12 (Int.toNat n9) fun x3 =>
 (cond (Nat.blt (Int.toNat n9) (List.length l12))
 (cond ((decide (((0 : Int) ≤ n9))) && (decide ((n9 < (((List.length l13) : Nat) : Int)))))
 (elemK l13 (Int.toNat n9) fun x4 =>
 (cond (Nat.blt (Int.toNat n9) (List.length l13))
 (cond ((decide (((0 : Int) ≤ n9))) && (decide ((n9 < (((List.length l14) : Nat) : Int)))))
 (elemK l14 (Int.toNat n9) fun x5 =>
 (cond (Nat.blt (Int.toNat n9) (List.length l14))
 (ag (IntKind.wrap IntKind.i64 (n9 + (1 : Int))) (nset l12 (Int.toNat n9) (IntKind.wrap IntKind.i64 (x2 + (1 : Int)))) (nset l13 (Int.toNat n9) (RtTask.fBudget x)) (nset l14 (Int.toNat n9) (IntKind.wrap IntKind.i64 (n5 + (RtTask.fPeriod x)))))
 none))
 none)
 none))
 none)
 none))
 none))
 none)
 (cond ((decide (((0 : Int) ≤ n9))) && (decide ((n9 < (((List.length l13) : Nat) : Int)))))
 (elemK l13 (Int.toNat n9) fun x6 =>
 (cond (Nat.blt (Int.toNat n9) (List.length l13))
 (cond ((decide (((0 : Int) ≤ n9))) && (decide ((n9 < (((List.length l14) : Nat) : Int)))))
 (elemK l14 (Int.toNat n9) fun x7 =>
 (cond (Nat.blt (Int.toNat n9) (List.length l14))
 (ag (IntKind.wrap IntKind.i64 (n9 + (1 : Int))) l12 (nset l13 (Int.toNat n9) (RtTask.fBudget x)) (nset l14 (Int.toNat n9) (IntKind.wrap IntKind.i64 (n5 + (RtTask.fPeriod x)))))
 none))
 none)
 none))
 none)))
 none)
 (ag (IntKind.wrap IntKind.i64 (n9 + (1 : Int))) l12 l13 l14))))
 none)
 (kN l12 l13 l14))
noncomputable def l_impl_RunDeadline_w_2 (N : Nat) {R : Type} (b10 : Bool) (b11 : Bool) (b12 : Bool) (n5 : Int) (n6 : Int) (n7 : Int) (b13 : Bool) (n8 : Int) (l8 : List RtTask) (n10 : Int) (b14 : Bool) (b15 : Bool) (l9 : List Int) (l10 : List Int) (n11 : Int) (b16 : Bool) (b17 : Bool) (l11 : List Int) (kN : (List Int) → (List Int) → (List Int) → Option R) : Nat → Int → (List Int) → (List Int) → (List Int) → Option R
 | 0, _, _, _, _ => none
 | f + 1, n9, l12, l13, l14 => s_impl_RunDeadline_w_2 N b10 b11 b12 n5 n6 n7 b13 n8 l8 n10 b14 b15 l9 l10 n11 b16 b17 l11 n9 l12 l13 l14 (fun n9 l12 l13 l14 => l_impl_RunDeadline_w_2 N b10 b11 b12 n5 n6 n7 b13 n8 l8 n10 b14 b15 l9 l10 n11 b16 b17 l11 kN f n9 l12 l13 l14)  kN
noncomputable def c_impl_RunDeadline_w_2 (N : Nat) {R : Type} (b10 : Bool) (b11 : Bool) (b12 : Bool) (n5 : Int) (n6 : Int) (n7 : Int) (b13 : Bool) (n8 : Int) (l8 : List RtTask) (n10 : Int) (b14 : Bool) (b15 : Bool) (l9 : List Int) (l10 : List Int) (n11 : Int) (b16 : Bool) (b17 : Bool) (l11 : List Int) (n9 : Int) (l12 : List Int) (l13 : List Int) (l14 : List Int) (kN : (List Int) → (List Int) → (List Int) → Option R) : Option R := l_impl_RunDeadline_w_2 N b10 b11 b12 n5 n6 n7 b13 n8 l8 n10 b14 b15 l9 l10 n11 b16 b17 l11 kN N n9 l12 l13 l14
theorem ea_se_impl_RunDeadline_w_2 (N : Nat) (G_impl_yin : ∀ {R : Type} (n : Int) (n1 : Int) (n2 : Int) (k : Bool → Option R), Option R) (G_impl_ytasksOk_r : ∀ {R : Type} (b : Bool) (l : List RtTask) (k : Bool → Option R), Option R) {R : Type} (b10 : Bool) (b11 : Bool) (b12 : Bool) (n5 : Int) (n6 : Int) (n7 : Int) (b13 : Bool) (n8 : Int) (l8 : List RtTask) (n10 : Int) (b14 : Bool) (b15 : Bool) (l9 : List Int) (l10 : List Int) (n11 : Int) (b16 : Bool) (b17 : Bool) (l11 : List Int) (n9 : Int) (l12 : List Int) (l13 : List Int) (l14 : List Int) (AG : List (Option AV) → Hp E → Option R) (KL : Ex → List (Option AV) → Hp E → Option R) :
    iterStep (E := E) (OA_impl_RunDeadline_w N G_impl_yin G_impl_ytasksOk_r) (fun {R} => LI (noIt) 1 129 sl_impl_RunDeadline_w (R := R)) J_impl_RunDeadline_w 1 129 2 [0, 4, 5, 6, 7, 8, 36, 37, 40, 41, 42] [0, 4, 5, 6, 7, 36, 37] (body Try.f7 2) AG KL [(some (AV.sc (SV.slc 0 none b10))), (some (AV.sc (SV.ptr 1 0 0))), (some (AV.sc (SV.ptr 4 0 0))), (some (AV.sc (SV.slc 7 none b11))), (some (AV.sc (SV.slc 8 none b12))), (some (AV.sc (SV.int IntKind.i64 n5))), (some (AV.sc (SV.int IntKind.i64 n6))), (some (AV.sc (SV.int IntKind.i64 n7))), (some (AV.sc (SV.slc 0 none b13))), (some (AV.sc (SV.int IntKind.i64 n8))), (some (AV.sc (SV.int IntKind.i64 n9)))] [(some (HE.mk false (HB.rows (B.iRtTask l8)))), (some (HE.mk false (HB.exp none [(SV.int IntKind.i64 n10), (SV.slc 2 none b14), (SV.slc 3 none b15)]))), (some (HE.mk false (HB.rows (B.i64 l9)))), (some (HE.mk false (HB.rows (B.i64 l10)))), (some (HE.mk false (HB.exp none [(SV.int IntKind.i64 n11), (SV.slc 5 none b16), (SV.slc 6 none b17)]))), (some (HE.mk false (HB.rows (B.i64 l11)))), (some (HE.mk false (HB.rows (B.i64 l12)))), (some (HE.mk false (HB.rows (B.i64 l13)))), (some (HE.mk false (HB.rows (B.i64 l14))))] =
      ga_s_impl_RunDeadline_w_2 N G_impl_yin G_impl_ytasksOk_r b10 b11 b12 n5 n6 n7 b13 n8 l8 n10 b14 b15 l9 l10 n11 b16 b17 l11 n9 l12 l13 l14 (fun n9 l12 l13 l14 => AG [(some (AV.sc (SV.slc 0 none b10))), (some (AV.sc (SV.ptr 1 0 0))), (some (AV.sc (SV.ptr 4 0 0))), (some (AV.sc (SV.slc 7 none b11))), (some (AV.sc (SV.slc 8 none b12))), (some (AV.sc (SV.int IntKind.i64 n5))), (some (AV.sc (SV.int IntKind.i64 n6))), (some (AV.sc (SV.int IntKind.i64 n7))), (some (AV.sc (SV.slc 0 none b13))), (some (AV.sc (SV.int IntKind.i64 n8))), (some (AV.sc (SV.int IntKind.i64 n9)))] [(some (HE.mk false (HB.rows (B.iRtTask l8)))), (some (HE.mk false (HB.exp none [(SV.int IntKind.i64 n10), (SV.slc 2 none b14), (SV.slc 3 none b15)]))), (some (HE.mk false (HB.rows (B.i64 l9)))), (some (HE.mk false (HB.rows (B.i64 l10)))), (some (HE.mk false (HB.exp none [(SV.int IntKind.i64 n11), (SV.slc 5 none b16), (SV.slc 6 none b17)]))), (some (HE.mk false (HB.rows (B.i64 l11)))), (some (HE.mk false (HB.rows (B.i64 l12)))), (some (HE.mk false (HB.rows (B.i64 l13)))), (some (HE.mk false (HB.rows (B.i64 l14))))])  (fun l29 l30 l31 => KL Ex.normal [(some (AV.sc (SV.slc 0 none b10))), (some (AV.sc (SV.ptr 1 0 0))), (some (AV.sc (SV.ptr 4 0 0))), (some (AV.sc (SV.slc 7 none b11))), (some (AV.sc (SV.slc 8 none b12))), (some (AV.sc (SV.int IntKind.i64 n6))), (some (AV.sc (SV.int IntKind.i64 n7)))] [(some (HE.mk false (HB.rows (B.iRtTask l8)))), (some (HE.mk false (HB.exp none [(SV.int IntKind.i64 n10), (SV.slc 2 none b14), (SV.slc 3 none b15)]))), (some (HE.mk false (HB.rows (B.i64 l9)))), (some (HE.mk false (HB.rows (B.i64 l10)))), (some (HE.mk false (HB.exp none [(SV.int IntKind.i64 n11), (SV.slc 5 none b16), (SV.slc 6 none b17)]))), (some (HE.mk false (HB.rows (B.i64 l11)))), (some (HE.mk false (HB.rows (B.i64 l29)))), (some (HE.mk false (HB.rows (B.i64 l30)))), (some (HE.mk false (HB.rows (B.i64 l31))))]) := by kernel_rfl
theorem se_impl_RunDeadline_w_2 (N : Nat) {R : Type} (b10 : Bool) (b11 : Bool) (b12 : Bool) (n5 : Int) (n6 : Int) (n7 : Int) (b13 : Bool) (n8 : Int) (l8 : List RtTask) (n10 : Int) (b14 : Bool) (b15 : Bool) (l9 : List Int) (l10 : List Int) (n11 : Int) (b16 : Bool) (b17 : Bool) (l11 : List Int) (n9 : Int) (l12 : List Int) (l13 : List Int) (l14 : List Int) (AG : List (Option AV) → Hp E → Option R) (KL : Ex → List (Option AV) → Hp E → Option R) :
    iterStep (E := E) (O_impl_RunDeadline_w N) (fun {R} => LI (noIt) 1 129 sl_impl_RunDeadline_w (R := R)) J_impl_RunDeadline_w 1 129 2 [0, 4, 5, 6, 7, 8, 36, 37, 40, 41, 42] [0, 4, 5, 6, 7, 36, 37] (body Try.f7 2) AG KL [(some (AV.sc (SV.slc 0 none b10))), (some (AV.sc (SV.ptr 1 0 0))), (some (AV.sc (SV.ptr 4 0 0))), (some (AV.sc (SV.slc 7 none b11))), (some (AV.sc (SV.slc 8 none b12))), (some (AV.sc (SV.int IntKind.i64 n5))), (some (AV.sc (SV.int IntKind.i64 n6))), (some (AV.sc (SV.int IntKind.i64 n7))), (some (AV.sc (SV.slc 0 none b13))), (some (AV.sc (SV.int IntKind.i64 n8))), (some (AV.sc (SV.int IntKind.i64 n9)))] [(some (HE.mk false (HB.rows (B.iRtTask l8)))), (some (HE.mk false (HB.exp none [(SV.int IntKind.i64 n10), (SV.slc 2 none b14), (SV.slc 3 none b15)]))), (some (HE.mk false (HB.rows (B.i64 l9)))), (some (HE.mk false (HB.rows (B.i64 l10)))), (some (HE.mk false (HB.exp none [(SV.int IntKind.i64 n11), (SV.slc 5 none b16), (SV.slc 6 none b17)]))), (some (HE.mk false (HB.rows (B.i64 l11)))), (some (HE.mk false (HB.rows (B.i64 l12)))), (some (HE.mk false (HB.rows (B.i64 l13)))), (some (HE.mk false (HB.rows (B.i64 l14))))] =
      s_impl_RunDeadline_w_2 N b10 b11 b12 n5 n6 n7 b13 n8 l8 n10 b14 b15 l9 l10 n11 b16 b17 l11 n9 l12 l13 l14 (fun n9 l12 l13 l14 => AG [(some (AV.sc (SV.slc 0 none b10))), (some (AV.sc (SV.ptr 1 0 0))), (some (AV.sc (SV.ptr 4 0 0))), (some (AV.sc (SV.slc 7 none b11))), (some (AV.sc (SV.slc 8 none b12))), (some (AV.sc (SV.int IntKind.i64 n5))), (some (AV.sc (SV.int IntKind.i64 n6))), (some (AV.sc (SV.int IntKind.i64 n7))), (some (AV.sc (SV.slc 0 none b13))), (some (AV.sc (SV.int IntKind.i64 n8))), (some (AV.sc (SV.int IntKind.i64 n9)))] [(some (HE.mk false (HB.rows (B.iRtTask l8)))), (some (HE.mk false (HB.exp none [(SV.int IntKind.i64 n10), (SV.slc 2 none b14), (SV.slc 3 none b15)]))), (some (HE.mk false (HB.rows (B.i64 l9)))), (some (HE.mk false (HB.rows (B.i64 l10)))), (some (HE.mk false (HB.exp none [(SV.int IntKind.i64 n11), (SV.slc 5 none b16), (SV.slc 6 none b17)]))), (some (HE.mk false (HB.rows (B.i64 l11)))), (some (HE.mk false (HB.rows (B.i64 l12)))), (some (HE.mk false (HB.rows (B.i64 l13)))), (some (HE.mk false (HB.rows (B.i64 l14))))])  (fun l29 l30 l31 => KL Ex.normal [(some (AV.sc (SV.slc 0 none b10))), (some (AV.sc (SV.ptr 1 0 0))), (some (AV.sc (SV.ptr 4 0 0))), (some (AV.sc (SV.slc 7 none b11))), (some (AV.sc (SV.slc 8 none b12))), (some (AV.sc (SV.int IntKind.i64 n6))), (some (AV.sc (SV.int IntKind.i64 n7)))] [(some (HE.mk false (HB.rows (B.iRtTask l8)))), (some (HE.mk false (HB.exp none [(SV.int IntKind.i64 n10), (SV.slc 2 none b14), (SV.slc 3 none b15)]))), (some (HE.mk false (HB.rows (B.i64 l9)))), (some (HE.mk false (HB.rows (B.i64 l10)))), (some (HE.mk false (HB.exp none [(SV.int IntKind.i64 n11), (SV.slc 5 none b16), (SV.slc 6 none b17)]))), (some (HE.mk false (HB.rows (B.i64 l11)))), (some (HE.mk false (HB.rows (B.i64 l29)))), (some (HE.mk false (HB.rows (B.i64 l30)))), (some (HE.mk false (HB.rows (B.i64 l31))))]) := castPr (by kernel_rfl) (ea_se_impl_RunDeadline_w_2 N (g_impl_yin N) (g_impl_ytasksOk_r N) b10 b11 b12 n5 n6 n7 b13 n8 l8 n10 b14 b15 l9 l10 n11 b16 b17 l11 n9 l12 l13 l14 AG KL)
theorem le_impl_RunDeadline_w_2 (N : Nat) {R : Type} (b10 : Bool) (b11 : Bool) (b12 : Bool) (n5 : Int) (n6 : Int) (n7 : Int) (b13 : Bool) (n8 : Int) (l8 : List RtTask) (n10 : Int) (b14 : Bool) (b15 : Bool) (l9 : List Int) (l10 : List Int) (n11 : Int) (b16 : Bool) (b17 : Bool) (l11 : List Int) (KL : Ex → List (Option AV) → Hp E → Option R) : ∀ (f : Nat), ∀ (n9 : Int) (l12 : List Int) (l13 : List Int) (l14 : List Int), iterK (E := E) (O_impl_RunDeadline_w N) (fun {R} => LI (noIt) 1 129 sl_impl_RunDeadline_w (R := R)) J_impl_RunDeadline_w 1 129 2 [0, 4, 5, 6, 7, 8, 36, 37, 40, 41, 42] [0, 4, 5, 6, 7, 36, 37] (body Try.f7 2) f [(some (AV.sc (SV.slc 0 none b10))), (some (AV.sc (SV.ptr 1 0 0))), (some (AV.sc (SV.ptr 4 0 0))), (some (AV.sc (SV.slc 7 none b11))), (some (AV.sc (SV.slc 8 none b12))), (some (AV.sc (SV.int IntKind.i64 n5))), (some (AV.sc (SV.int IntKind.i64 n6))), (some (AV.sc (SV.int IntKind.i64 n7))), (some (AV.sc (SV.slc 0 none b13))), (some (AV.sc (SV.int IntKind.i64 n8))), (some (AV.sc (SV.int IntKind.i64 n9)))] [(some (HE.mk false (HB.rows (B.iRtTask l8)))), (some (HE.mk false (HB.exp none [(SV.int IntKind.i64 n10), (SV.slc 2 none b14), (SV.slc 3 none b15)]))), (some (HE.mk false (HB.rows (B.i64 l9)))), (some (HE.mk false (HB.rows (B.i64 l10)))), (some (HE.mk false (HB.exp none [(SV.int IntKind.i64 n11), (SV.slc 5 none b16), (SV.slc 6 none b17)]))), (some (HE.mk false (HB.rows (B.i64 l11)))), (some (HE.mk false (HB.rows (B.i64 l12)))), (some (HE.mk false (HB.rows (B.i64 l13)))), (some (HE.mk false (HB.rows (B.i64 l14))))] KL = l_impl_RunDeadline_w_2 N b10 b11 b12 n5 n6 n7 b13 n8 l8 n10 b14 b15 l9 l10 n11 b16 b17 l11 (fun l29 l30 l31 => KL Ex.normal [(some (AV.sc (SV.slc 0 none b10))), (some (AV.sc (SV.ptr 1 0 0))), (some (AV.sc (SV.ptr 4 0 0))), (some (AV.sc (SV.slc 7 none b11))), (some (AV.sc (SV.slc 8 none b12))), (some (AV.sc (SV.int IntKind.i64 n6))), (some (AV.sc (SV.int IntKind.i64 n7)))] [(some (HE.mk false (HB.rows (B.iRtTask l8)))), (some (HE.mk false (HB.exp none [(SV.int IntKind.i64 n10), (SV.slc 2 none b14), (SV.slc 3 none b15)]))), (some (HE.mk false (HB.rows (B.i64 l9)))), (some (HE.mk false (HB.rows (B.i64 l10)))), (some (HE.mk false (HB.exp none [(SV.int IntKind.i64 n11), (SV.slc 5 none b16), (SV.slc 6 none b17)]))), (some (HE.mk false (HB.rows (B.i64 l11)))), (some (HE.mk false (HB.rows (B.i64 l29)))), (some (HE.mk false (HB.rows (B.i64 l30)))), (some (HE.mk false (HB.rows (B.i64 l31))))]) f n9 l12 l13 l14 := by
  intro f
  induction f with
  | zero => intros; rfl
  | succ f ih =>
    intro n9 l12 l13 l14
    rw [iterK_succ, se_impl_RunDeadline_w_2]
    exact (congrArg (fun z0 => s_impl_RunDeadline_w_2 N b10 b11 b12 n5 n6 n7 b13 n8 l8 n10 b14 b15 l9 l10 n11 b16 b17 l11 n9 l12 l13 l14 z0 (fun l29 l30 l31 => KL Ex.normal [(some (AV.sc (SV.slc 0 none b10))), (some (AV.sc (SV.ptr 1 0 0))), (some (AV.sc (SV.ptr 4 0 0))), (some (AV.sc (SV.slc 7 none b11))), (some (AV.sc (SV.slc 8 none b12))), (some (AV.sc (SV.int IntKind.i64 n6))), (some (AV.sc (SV.int IntKind.i64 n7)))] [(some (HE.mk false (HB.rows (B.iRtTask l8)))), (some (HE.mk false (HB.exp none [(SV.int IntKind.i64 n10), (SV.slc 2 none b14), (SV.slc 3 none b15)]))), (some (HE.mk false (HB.rows (B.i64 l9)))), (some (HE.mk false (HB.rows (B.i64 l10)))), (some (HE.mk false (HB.exp none [(SV.int IntKind.i64 n11), (SV.slc 5 none b16), (SV.slc 6 none b17)]))), (some (HE.mk false (HB.rows (B.i64 l11)))), (some (HE.mk false (HB.rows (B.i64 l29)))), (some (HE.mk false (HB.rows (B.i64 l30)))), (some (HE.mk false (HB.rows (B.i64 l31))))])) (funext fun n9 => funext fun l12 => funext fun l13 => funext fun l14 => ih n9 l12 l13 l14))
noncomputable def i_impl_RunDeadline_w_2 (N : Nat) {R : Type} (vs : List (Option AV)) (H : Hp E) (KL : Ex → List (Option AV) → Hp E → Option R) : Option R :=
 match vs, H with
 | [(some (AV.sc (SV.slc 0 none b10))), (some (AV.sc (SV.ptr 1 0 0))), (some (AV.sc (SV.ptr 4 0 0))), (some (AV.sc (SV.slc 7 none b11))), (some (AV.sc (SV.slc 8 none b12))), (some (AV.sc (SV.int IntKind.i64 n5))), (some (AV.sc (SV.int IntKind.i64 n6))), (some (AV.sc (SV.int IntKind.i64 n7))), (some (AV.sc (SV.slc 0 none b13))), (some (AV.sc (SV.int IntKind.i64 n8))), (some (AV.sc (SV.int IntKind.i64 n9)))], [(some (HE.mk false (HB.rows (B.iRtTask l8)))), (some (HE.mk false (HB.exp none [(SV.int IntKind.i64 n10), (SV.slc 2 none b14), (SV.slc 3 none b15)]))), (some (HE.mk false (HB.rows (B.i64 l9)))), (some (HE.mk false (HB.rows (B.i64 l10)))), (some (HE.mk false (HB.exp none [(SV.int IntKind.i64 n11), (SV.slc 5 none b16), (SV.slc 6 none b17)]))), (some (HE.mk false (HB.rows (B.i64 l11)))), (some (HE.mk false (HB.rows (B.i64 l12)))), (some (HE.mk false (HB.rows (B.i64 l13)))), (some (HE.mk false (HB.rows (B.i64 l14))))] => c_impl_RunDeadline_w_2 N b10 b11 b12 n5 n6 n7 b13 n8 l8 n10 b14 b15 l9 l10 n11 b16 b17 l11 n9 l12 l13 l14 (fun l32 l33 l34 => KL Ex.normal [(some (AV.sc (SV.slc 0 none b10))), (some (AV.sc (SV.ptr 1 0 0))), (some (AV.sc (SV.ptr 4 0 0))), (some (AV.sc (SV.slc 7 none b11))), (some (AV.sc (SV.slc 8 none b12))), (some (AV.sc (SV.int IntKind.i64 n6))), (some (AV.sc (SV.int IntKind.i64 n7)))] [(some (HE.mk false (HB.rows (B.iRtTask l8)))), (some (HE.mk false (HB.exp none [(SV.int IntKind.i64 n10), (SV.slc 2 none b14), (SV.slc 3 none b15)]))), (some (HE.mk false (HB.rows (B.i64 l9)))), (some (HE.mk false (HB.rows (B.i64 l10)))), (some (HE.mk false (HB.exp none [(SV.int IntKind.i64 n11), (SV.slc 5 none b16), (SV.slc 6 none b17)]))), (some (HE.mk false (HB.rows (B.i64 l11)))), (some (HE.mk false (HB.rows (B.i64 l32)))), (some (HE.mk false (HB.rows (B.i64 l33)))), (some (HE.mk false (HB.rows (B.i64 l34))))])
 | _, _ => none
noncomputable def IT_impl_RunDeadline_w_2 (N : Nat) : Its E := addIt 2 (i_impl_RunDeadline_w_2 N) (noIt)
theorem IT_impl_RunDeadline_w_2_ok (N : Nat) : ItOk (IT_impl_RunDeadline_w_2 N) 1 129 sl_impl_RunDeadline_w (lsB Try.f7 [2]) :=
  addItB_ok (inner := []) ok (O_impl_RunDeadline_w_ok N) (jn_ok _ _ _) (noIt_ok) rfl (by kernel_rfl) rfl fun vs H KL r h => by
    unfold i_impl_RunDeadline_w_2 at h
    split at h
    · exact ⟨_, (le_impl_RunDeadline_w_2 N _ _ _ _ _ _ _ _ _ _ _ _ _ _ _ _ _ _ KL N _ _ _ _).trans h⟩
    · cases h
noncomputable def s_impl_RunDeadline_w_4 (N : Nat) {R : Type} (b18 : Bool) (b19 : Bool) (b20 : Bool) (n13 : Int) (n14 : Int) (n15 : Int) (l18 : List RtTask) (n17 : Int) (b21 : Bool) (b22 : Bool) (l19 : List Int) (l20 : List Int) (n18 : Int) (b23 : Bool) (b24 : Bool) (l21 : List Int) (l22 : List Int) (l23 : List Int) (l24 : List Int) (n12 : Int) (n16 : Int) (ag : Int → Int → Option R)  (kN : Int → Option R) : Option R :=
 (cond (decide ((n16 < n15)))
 (oK (cond ((decide (((0 : Int) ≤ n16))) && (decide ((n16 < (((List.length l23) : Nat) : Int)))))
 (elemK l23 (Int.toNat n16) fun x8 =>
 (cond (decide ((x8 > (0 : Int))))
 (cond (decide ((n12 < (0 : Int))))
 (some true)
 (cond ((decide (((0 : Int) ≤ n16))) && (decide ((n16 < (((List.length l24) : Nat) : Int)))))
 (elemK l24 (Int.toNat n16) fun x9 =>
 (cond ((decide (((0 : Int) ≤ n12))) && (decide ((n12 < (((List.length l24) : Nat) : Int)))))
 (elemK l24 (Int.toNat n12) fun x10 =>
 (some (decide ((x9 < x10)))))
 none))
 none))
 (some false)))
 none) fun j2 =>
 (oK (cond j2
 (some n16)
 (some n12)) fun j3 =>
 (ag j3 (IntKind.wrap IntKind.i64 (n16 + (1 : Int))))))
 (kN n12))
noncomputable def ga_s_impl_RunDeadline_w_4 (N : Nat) (G_impl_yin : ∀ {R : Type} (n : Int) (n1 : Int) (n2 : Int) (k : Bool → Option R), Option R) (G_impl_ytasksOk_r : ∀ {R : Type} (b : Bool) (l : List RtTask) (k : Bool → Option R), Option R) {R : Type} (b18 : Bool) (b19 : Bool) (b20 : Bool) (n13 : Int) (n14 : Int) (n15 : Int) (l18 : List RtTask) (n17 : Int) (b21 : Bool) (b22 : Bool) (l19 : List Int) (l20 : List Int) (n18 : Int) (b23 : Bool) (b24 : Bool) (l21 : List Int) (l22 : List Int) (l23 : List Int) (l24 : List Int) (n12 : Int) (n16 : Int) (ag : Int → Int → Option R)  (kN : Int → Option R) : Option R :=
 (cond (decide ((n16 < n15)))
 (oK (cond ((decide (((0 : Int) ≤ n16))) && (decide ((n16 < (((List.length l23) : Nat) : Int)))))
 (elemK l23 (Int.toNat n16) fun x8 =>
 (cond (decide ((x8 > (0 : Int))))
 (cond (decide ((n12 < (0 : Int))))
 (some true)
 (cond ((decide (((0 : Int) ≤ n16))) && (decide ((n16 < (((List.length l24) : Nat) : Int)))))
 (elemK l24 (Int.toNat n16) fun x9 =>
 (cond ((decide (((0 : Int) ≤ n12))) && (decide ((n12 < (((List.length l24) : Nat) : Int)))))
 (elemK l24 (Int.toNat n12) fun x10 =>
 (some (decide ((x9 < x10)))))
 none))
 none))
 (some false)))
 none) fun j2 =>
 (oK (cond j2
 (some n16)
 (some n12)) fun j3 =>
 (ag j3 (IntKind.wrap IntKind.i64 (n16 + (1 : Int))))))
 (kN n12))
noncomputable def l_impl_RunDeadline_w_4 (N : Nat) {R : Type} (b18 : Bool) (b19 : Bool) (b20 : Bool) (n13 : Int) (n14 : Int) (n15 : Int) (l18 : List RtTask) (n17 : Int) (b21 : Bool) (b22 : Bool) (l19 : List Int) (l20 : List Int) (n18 : Int) (b23 : Bool) (b24 : Bool) (l21 : List Int) (l22 : List Int) (l23 : List Int) (l24 : List Int) (kN : Int → Option R) : Nat → Int → Int → Option R
 | 0, _, _ => none
 | f + 1, n12, n16 => s_impl_RunDeadline_w_4 N b18 b19 b20 n13 n14 n15 l18 n17 b21 b22 l19 l20 n18 b23 b24 l21 l22 l23 l24 n12 n16 (fun n12 n16 => l_impl_RunDeadline_w_4 N b18 b19 b20 n13 n14 n15 l18 n17 b21 b22 l19 l20 n18 b23 b24 l21 l22 l23 l24 kN f n12 n16)  kN
noncomputable def c_impl_RunDeadline_w_4 (N : Nat) {R : Type} (b18 : Bool) (b19 : Bool) (b20 : Bool) (n13 : Int) (n14 : Int) (n15 : Int) (l18 : List RtTask) (n17 : Int) (b21 : Bool) (b22 : Bool) (l19 : List Int) (l20 : List Int) (n18 : Int) (b23 : Bool) (b24 : Bool) (l21 : List Int) (l22 : List Int) (l23 : List Int) (l24 : List Int) (n12 : Int) (n16 : Int) (kN : Int → Option R) : Option R := l_impl_RunDeadline_w_4 N b18 b19 b20 n13 n14 n15 l18 n17 b21 b22 l19 l20 n18 b23 b24 l21 l22 l23 l24 kN N n12 n16
theorem ea_se_impl_RunDeadline_w_4 (N : Nat) (G_impl_yin : ∀ {R : Type} (n : Int) (n1 : Int) (n2 : Int) (k : Bool → Option R), Option R) (G_impl_ytasksOk_r : ∀ {R : Type} (b : Bool) (l : List RtTask) (k : Bool → Option R), Option R) {R : Type} (b18 : Bool) (b19 : Bool) (b20 : Bool) (n13 : Int) (n14 : Int) (n15 : Int) (l18 : List RtTask) (n17 : Int) (b21 : Bool) (b22 : Bool) (l19 : List Int) (l20 : List Int) (n18 : Int) (b23 : Bool) (b24 : Bool) (l21 : List Int) (l22 : List Int) (l23 : List Int) (l24 : List Int) (n12 : Int) (n16 : Int) (AG : List (Option AV) → Hp E → Option R) (KL : Ex → List (Option AV) → Hp E → Option R) :
    iterStep (E := E) (OA_impl_RunDeadline_w N G_impl_yin G_impl_ytasksOk_r) (fun {R} => LI (IT_impl_RunDeadline_w_2 N) 1 129 sl_impl_RunDeadline_w (R := R)) J_impl_RunDeadline_w 1 129 4 [0, 4, 5, 6, 7, 11, 36, 37, 87, 88] [0, 4, 5, 6, 7, 11, 36, 37] (body Try.f7 4) AG KL [(some (AV.sc (SV.slc 0 none b18))), (some (AV.sc (SV.ptr 1 0 0))), (some (AV.sc (SV.ptr 4 0 0))), (some (AV.sc (SV.slc 7 none b19))), (some (AV.sc (SV.slc 8 none b20))), (some (AV.sc (SV.int IntKind.i64 n12))), (some (AV.sc (SV.int IntKind.i64 n13))), (some (AV.sc (SV.int IntKind.i64 n14))), (some (AV.sc (SV.int IntKind.i64 n15))), (some (AV.sc (SV.int IntKind.i64 n16)))] [(some (HE.mk false (HB.rows (B.iRtTask l18)))), (some (HE.mk false (HB.exp none [(SV.int IntKind.i64 n17), (SV.slc 2 none b21), (SV.slc 3 none b22)]))), (some (HE.mk false (HB.rows (B.i64 l19)))), (some (HE.mk false (HB.rows (B.i64 l20)))), (some (HE.mk false (HB.exp none [(SV.int IntKind.i64 n18), (SV.slc 5 none b23), (SV.slc 6 none b24)]))), (some (HE.mk false (HB.rows (B.i64 l21)))), (some (HE.mk false (HB.rows (B.i64 l22)))), (some (HE.mk false (HB.rows (B.i64 l23)))), (some (HE.mk false (HB.rows (B.i64 l24))))] =
      ga_s_impl_RunDeadline_w_4 N G_impl_yin G_impl_ytasksOk_r b18 b19 b20 n13 n14 n15 l18 n17 b21 b22 l19 l20 n18 b23 b24 l21 l22 l23 l24 n12 n16 (fun n12 n16 => AG [(some (AV.sc (SV.slc 0 none b18))), (some (AV.sc (SV.ptr 1 0 0))), (some (AV.sc (SV.ptr 4 0 0))), (some (AV.sc (SV.slc 7 none b19))), (some (AV.sc (SV.slc 8 none b20))), (some (AV.sc (SV.int IntKind.i64 n12))), (some (AV.sc (SV.int IntKind.i64 n13))), (some (AV.sc (SV.int IntKind.i64 n14))), (some (AV.sc (SV.int IntKind.i64 n15))), (some (AV.sc (SV.int IntKind.i64 n16)))] [(some (HE.mk false (HB.rows (B.iRtTask l18)))), (some (HE.mk false (HB.exp none [(SV.int IntKind.i64 n17), (SV.slc 2 none b21), (SV.slc 3 none b22)]))), (some (HE.mk false (HB.rows (B.i64 l19)))), (some (HE.mk false (HB.rows (B.i64 l20)))), (some (HE.mk false (HB.exp none [(SV.int IntKind.i64 n18), (SV.slc 5 none b23), (SV.slc 6 none b24)]))), (some (HE.mk false (HB.rows (B.i64 l21)))), (some (HE.mk false (HB.rows (B.i64 l22)))), (some (HE.mk false (HB.rows (B.i64 l23)))), (some (HE.mk false (HB.rows (B.i64 l24))))])  (fun n21 => KL Ex.normal [(some (AV.sc (SV.slc 0 none b18))), (some (AV.sc (SV.ptr 1 0 0))), (some (AV.sc (SV.ptr 4 0 0))), (some (AV.sc (SV.slc 7 none b19))), (some (AV.sc (SV.slc 8 none b20))), (some (AV.sc (SV.int IntKind.i64 n21))), (some (AV.sc (SV.int IntKind.i64 n13))), (some (AV.sc (SV.int IntKind.i64 n14)))] [(some (HE.mk false (HB.rows (B.iRtTask l18)))), (some (HE.mk false (HB.exp none [(SV.int IntKind.i64 n17), (SV.slc 2 none b21), (SV.slc 3 none b22)]))), (some (HE.mk false (HB.rows (B.i64 l19)))), (some (HE.mk false (HB.rows (B.i64 l20)))), (some (HE.mk false (HB.exp none [(SV.int IntKind.i64 n18), (SV.slc 5 none b23), (SV.slc 6 none b24)]))), (some (HE.mk false (HB.rows (B.i64 l21)))), (some (HE.mk false (HB.rows (B.i64 l22)))), (some (HE.mk false (HB.rows (B.i64 l23)))), (some (HE.mk false (HB.rows (B.i64 l24))))]) := by kernel_rfl
theorem se_impl_RunDeadline_w_4 (N : Nat) {R : Type} (b18 : Bool) (b19 : Bool) (b20 : Bool) (n13 : Int) (n14 : Int) (n15 : Int) (l18 : List RtTask) (n17 : Int) (b21 : Bool) (b22 : Bool) (l19 : List Int) (l20 : List Int) (n18 : Int) (b23 : Bool) (b24 : Bool) (l21 : List Int) (l22 : List Int) (l23 : List Int) (l24 : List Int) (n12 : Int) (n16 : Int) (AG : List (Option AV) → Hp E → Option R) (KL : Ex → List (Option AV) → Hp E → Option R) :
    iterStep (E := E) (O_impl_RunDeadline_w N) (fun {R} => LI (IT_impl_RunDeadline_w_2 N) 1 129 sl_impl_RunDeadline_w (R := R)) J_impl_RunDeadline_w 1 129 4 [0, 4, 5, 6, 7, 11, 36, 37, 87, 88] [0, 4, 5, 6, 7, 11, 36, 37] (body Try.f7 4) AG KL [(some (AV.sc (SV.slc 0 none b18))), (some (AV.sc (SV.ptr 1 0 0))), (some (AV.sc (SV.ptr 4 0 0))), (some (AV.sc (SV.slc 7 none b19))), (some (AV.sc (SV.slc 8 none b20))), (some (AV.sc (SV.int IntKind.i64 n12))), (some (AV.sc (SV.int IntKind.i64 n13))), (some (AV.sc (SV.int IntKind.i64 n14))), (some (AV.sc (SV.int IntKind.i64 n15))), (some (AV.sc (SV.int IntKind.i64 n16)))] [(some (HE.mk false (HB.rows (B.iRtTask l18)))), (some (HE.mk false (HB.exp none [(SV.int IntKind.i64 n17), (SV.slc 2 none b21), (SV.slc 3 none b22)]))), (some (HE.mk false (HB.rows (B.i64 l19)))), (some (HE.mk false (HB.rows (B.i64 l20)))), (some (HE.mk false (HB.exp none [(SV.int IntKind.i64 n18), (SV.slc 5 none b23), (SV.slc 6 none b24)]))), (some (HE.mk false (HB.rows (B.i64 l21)))), (some (HE.mk false (HB.rows (B.i64 l22)))), (some (HE.mk false (HB.rows (B.i64 l23)))), (some (HE.mk false (HB.rows (B.i64 l24))))] =
      s_impl_RunDeadline_w_4 N b18 b19 b20 n13 n14 n15 l18 n17 b21 b22 l19 l20 n18 b23 b24 l21 l22 l23 l24 n12 n16 (fun n12 n16 => AG [(some (AV.sc (SV.slc 0 none b18))), (some (AV.sc (SV.ptr 1 0 0))), (some (AV.sc (SV.ptr 4 0 0))), (some (AV.sc (SV.slc 7 none b19))), (some (AV.sc (SV.slc 8 none b20))), (some (AV.sc (SV.int IntKind.i64 n12))), (some (AV.sc (SV.int IntKind.i64 n13))), (some (AV.sc (SV.int IntKind.i64 n14))), (some (AV.sc (SV.int IntKind.i64 n15))), (some (AV.sc (SV.int IntKind.i64 n16)))] [(some (HE.mk false (HB.rows (B.iRtTask l18)))), (some (HE.mk false (HB.exp none [(SV.int IntKind.i64 n17), (SV.slc 2 none b21), (SV.slc 3 none b22)]))), (some (HE.mk false (HB.rows (B.i64 l19)))), (some (HE.mk false (HB.rows (B.i64 l20)))), (some (HE.mk false (HB.exp none [(SV.int IntKind.i64 n18), (SV.slc 5 none b23), (SV.slc 6 none b24)]))), (some (HE.mk false (HB.rows (B.i64 l21)))), (some (HE.mk false (HB.rows (B.i64 l22)))), (some (HE.mk false (HB.rows (B.i64 l23)))), (some (HE.mk false (HB.rows (B.i64 l24))))])  (fun n21 => KL Ex.normal [(some (AV.sc (SV.slc 0 none b18))), (some (AV.sc (SV.ptr 1 0 0))), (some (AV.sc (SV.ptr 4 0 0))), (some (AV.sc (SV.slc 7 none b19))), (some (AV.sc (SV.slc 8 none b20))), (some (AV.sc (SV.int IntKind.i64 n21))), (some (AV.sc (SV.int IntKind.i64 n13))), (some (AV.sc (SV.int IntKind.i64 n14)))] [(some (HE.mk false (HB.rows (B.iRtTask l18)))), (some (HE.mk false (HB.exp none [(SV.int IntKind.i64 n17), (SV.slc 2 none b21), (SV.slc 3 none b22)]))), (some (HE.mk false (HB.rows (B.i64 l19)))), (some (HE.mk false (HB.rows (B.i64 l20)))), (some (HE.mk false (HB.exp none [(SV.int IntKind.i64 n18), (SV.slc 5 none b23), (SV.slc 6 none b24)]))), (some (HE.mk false (HB.rows (B.i64 l21)))), (some (HE.mk false (HB.rows (B.i64 l22)))), (some (HE.mk false (HB.rows (B.i64 l23)))), (some (HE.mk false (HB.rows (B.i64 l24))))]) := castPr (by kernel_rfl) (ea_se_impl_RunDeadline_w_4 N (g_impl_yin N) (g_impl_ytasksOk_r N) b18 b19 b20 n13 n14 n15 l18 n17 b21 b22 l19 l20 n18 b23 b24 l21 l22 l23 l24 n12 n16 AG KL)
theorem le_impl_RunDeadline_w_4 (N : Nat) {R : Type} (b18 : Bool) (b19 : Bool) (b20 : Bool) (n13 : Int) (n14 : Int) (n15 : Int) (l18 : List RtTask) (n17 : Int) (b21 : Bool) (b22 : Bool) (l19 : List Int) (l20 : List Int) (n18 : Int) (b23 : Bool) (b24 : Bool) (l21 : List Int) (l22 : List Int) (l23 : List Int) (l24 : List Int) (KL : Ex → List (Option AV) → Hp E → Option R) : ∀ (f : Nat), ∀ (n12 : Int) (n16 : Int), iterK (E := E) (O_impl_RunDeadline_w N) (fun {R} => LI (IT_impl_RunDeadline_w_2 N) 1 129 sl_impl_RunDeadline_w (R := R)) J_impl_RunDeadline_w 1 129 4 [0, 4, 5, 6, 7, 11, 36, 37, 87, 88] [0, 4, 5, 6, 7, 11, 36, 37] (body Try.f7 4) f [(some (AV.sc (SV.slc 0 none b18))), (some (AV.sc (SV.ptr 1 0 0))), (some (AV.sc (SV.ptr 4 0 0))), (some (AV.sc (SV.slc 7 none b19))), (some (AV.sc (SV.slc 8 none b20))), (some (AV.sc (SV.int IntKind.i64 n12))), (some (AV.sc (SV.int IntKind.i64 n13))), (some (AV.sc (SV.int IntKind.i64 n14))), (some (AV.sc (SV.int IntKind.i64 n15))), (some (AV.sc (SV.int IntKind.i64 n16)))] [(some (HE.mk false (HB.rows (B.iRtTask l18)))), (some (HE.mk false (HB.exp none [(SV.int IntKind.i64 n17), (SV.slc 2 none b21), (SV.slc 3 none b22)]))), (some (HE.mk false (HB.rows (B.i64 l19)))), (some (HE.mk false (HB.rows (B.i64 l20)))), (some (HE.mk false (HB.exp none [(SV.int IntKind.i64 n18), (SV.slc 5 none b23), (SV.slc 6 none b24)]))), (some (HE.mk false (HB.rows (B.i64 l21)))), (some (HE.mk false (HB.rows (B.i64 l22)))), (some (HE.mk false (HB.rows (B.i64 l23)))), (some (HE.mk false (HB.rows (B.i64 l24))))] KL = l_impl_RunDeadline_w_4 N b18 b19 b20 n13 n14 n15 l18 n17 b21 b22 l19 l20 n18 b23 b24 l21 l22 l23 l24 (fun n21 => KL Ex.normal [(some (AV.sc (SV.slc 0 none b18))), (some (AV.sc (SV.ptr 1 0 0))), (some (AV.sc (SV.ptr 4 0 0))), (some (AV.sc (SV.slc 7 none b19))), (some (AV.sc (SV.slc 8 none b20))), (some (AV.sc (SV.int IntKind.i64 n21))), (some (AV.sc (SV.int IntKind.i64 n13))), (some (AV.sc (SV.int IntKind.i64 n14)))] [(some (HE.mk false (HB.rows (B.iRtTask l18)))), (some (HE.mk false (HB.exp none [(SV.int IntKind.i64 n17), (SV.slc 2 none b21), (SV.slc 3 none b22)]))), (some (HE.mk false (HB.rows (B.i64 l19)))), (some (HE.mk false (HB.rows (B.i64 l20)))), (some (HE.mk false (HB.exp none [(SV.int IntKind.i64 n18), (SV.slc 5 none b23), (SV.slc 6 none b24)]))), (some (HE.mk false (HB.rows (B.i64 l21)))), (some (HE.mk false (HB.rows (B.i64 l22)))), (some (HE.mk false (HB.rows (B.i64 l23)))), (some (HE.mk false (HB.rows (B.i64 l24))))]) f n12 n16 := by
  intro f
  induction f with
  | zero => intros; rfl
  | succ f ih =>
    intro n12 n16
    rw [iterK_succ, se_impl_RunDeadline_w_4]
    exact (congrArg (fun z0 => s_impl_RunDeadline_w_4 N b18 b19 b20 n13 n14 n15 l18 n17 b21 b22 l19 l20 n18 b23 b24 l21 l22 l23 l24 n12 n16 z0 (fun n21 => KL Ex.normal [(some (AV.sc (SV.slc 0 none b18))), (some (AV.sc (SV.ptr 1 0 0))), (some (AV.sc (SV.ptr 4 0 0))), (some (AV.sc (SV.slc 7 none b19))), (some (AV.sc (SV.slc 8 none b20))), (some (AV.sc (SV.int IntKind.i64 n21))), (some (AV.sc (SV.int IntKind.i64 n13))), (some (AV.sc (SV.int IntKind.i64 n14)))] [(some (HE.mk false (HB.rows (B.iRtTask l18)))), (some (HE.mk false (HB.exp none [(SV.int IntKind.i64 n17), (SV.slc 2 none b21), (SV.slc 3 none b22)]))), (some (HE.mk false (HB.rows (B.i64 l19)))), (some (HE.mk false (HB.rows (B.i64 l20)))), (some (HE.mk false (HB.exp none [(SV.int IntKind.i64 n18), (SV.slc 5 none b23), (SV.slc 6 none b24)]))), (some (HE.mk false (HB.rows (B.i64 l21)))), (some (HE.mk false (HB.rows (B.i64 l22)))), (some (HE.mk false (HB.rows (B.i64 l23)))), (some (HE.mk false (HB.rows (B.i64 l24))))])) (funext fun n12 => funext fun n16 => ih n12 n16))
noncomputable def i_impl_RunDeadline_w_4 (N : Nat) {R : Type} (vs : List (Option AV)) (H : Hp E) (KL : Ex → List (Option AV) → Hp E → Option R) : Option R :=
 match vs, H with
 | [(some (AV.sc (SV.slc 0 none b18))), (some (AV.sc (SV.ptr 1 0 0))), (some (AV.sc (SV.ptr 4 0 0))), (some (AV.sc (SV.slc 7 none b19))), (some (AV.sc (SV.slc 8 none b20))), (some (AV.sc (SV.int IntKind.i64 n12))), (some (AV.sc (SV.int IntKind.i64 n13))), (some (AV.sc (SV.int IntKind.i64 n14))), (some (AV.sc (SV.int IntKind.i64 n15))), (some (AV.sc (SV.int IntKind.i64 n16)))], [(some (HE.mk false (HB.rows (B.iRtTask l18)))), (some (HE.mk false (HB.exp none [(SV.int IntKind.i64 n17), (SV.slc 2 none b21), (SV.slc 3 none b22)]))), (some (HE.mk false (HB.rows (B.i64 l19)))), (some (HE.mk false (HB.rows (B.i64 l20)))), (some (HE.mk false (HB.exp none [(SV.int IntKind.i64 n18), (SV.slc 5 none b23), (SV.slc 6 none b24)]))), (some (HE.mk false (HB.rows (B.i64 l21)))), (some (HE.mk false (HB.rows (B.i64 l22)))), (some (HE.mk false (HB.rows (B.i64 l23)))), (some (HE.mk false (HB.rows (B.i64 l24))))] => c_impl_RunDeadline_w_4 N b18 b19 b20 n13 n14 n15 l18 n17 b21 b22 l19 l20 n18 b23 b24 l21 l22 l23 l24 n12 n16 (fun n22 => KL Ex.normal [(some (AV.sc (SV.slc 0 none b18))), (some (AV.sc (SV.ptr 1 0 0))), (some (AV.sc (SV.ptr 4 0 0))), (some (AV.sc (SV.slc 7 none b19))), (some (AV.sc (SV.slc 8 none b20))), (some (AV.sc (SV.int IntKind.i64 n22))), (some (AV.sc (SV.int IntKind.i64 n13))), (some (AV.sc (SV.int IntKind.i64 n14)))] [(some (HE.mk false (HB.rows (B.iRtTask l18)))), (some (HE.mk false (HB.exp none [(SV.int IntKind.i64 n17), (SV.slc 2 none b21), (SV.slc 3 none b22)]))), (some (HE.mk false (HB.rows (B.i64 l19)))), (some (HE.mk false (HB.rows (B.i64 l20)))), (some (HE.mk false (HB.exp none [(SV.int IntKind.i64 n18), (SV.slc 5 none b23), (SV.slc 6 none b24)]))), (some (HE.mk false (HB.rows (B.i64 l21)))), (some (HE.mk false (HB.rows (B.i64 l22)))), (some (HE.mk false (HB.rows (B.i64 l23)))), (some (HE.mk false (HB.rows (B.i64 l24))))])
 | _, _ => none
noncomputable def IT_impl_RunDeadline_w_4 (N : Nat) : Its E := addIt 4 (i_impl_RunDeadline_w_4 N) (IT_impl_RunDeadline_w_2 N)
theorem IT_impl_RunDeadline_w_4_ok (N : Nat) : ItOk (IT_impl_RunDeadline_w_4 N) 1 129 sl_impl_RunDeadline_w (lsB Try.f7 [4, 2]) :=
  addItB_ok (inner := []) ok (O_impl_RunDeadline_w_ok N) (jn_ok _ _ _) (IT_impl_RunDeadline_w_2_ok N) rfl (by kernel_rfl) rfl fun vs H KL r h => by
    unfold i_impl_RunDeadline_w_4 at h
    split at h
    · exact ⟨_, (le_impl_RunDeadline_w_4 N _ _ _ _ _ _ _ _ _ _ _ _ _ _ _ _ _ _ _ KL N _ _).trans h⟩
    · cases h
noncomputable def s_impl_RunDeadline_w_0 (N : Nat) {R : Type} (b3 : Bool) (b4 : Bool) (b5 : Bool) (n1 : Int) (l1 : List RtTask) (n3 : Int) (b6 : Bool) (b7 : Bool) (l2 : List Int) (l3 : List Int) (n4 : Int) (b9 : Bool) (n2 : Int) (b8 : Bool) (l4 : List Int) (l5 : List Int) (l6 : List Int) (l7 : List Int) (ag : Int → Bool → (List Int) → (List Int) → (List Int) → (List Int) → Option R)  (kN : Bool → (List Int) → (List Int) → Option R) : Option R :=
 (cond (decide ((n2 < n1)))
 (c_impl_RunDeadline_w_2 N b3 b4 b5 n2 n1 n2 b3 (((List.length l1) : Nat) : Int) l1 n3 b6 b7 l2 l3 n4 b8 b9 l4 (0 : Int) l5 l6 l7 fun l15 l16 l17 =>
 (c_impl_RunDeadline_w_4 N b3 b4 b5 n1 n2 (((List.length l1) : Nat) : Int) l1 n3 b6 b7 l2 l3 n4 b8 b9 l4 l15 l16 l17 (-(1 : Int)) (0 : Int) fun n19 =>
 (cond (decide ((n19 ≥ (0 : Int))))
 (cond ((decide (((0 : Int) ≤ n19))) && (decide ((n19 < (((List.length l16) : Nat) : Int)))))
 (elemK l16 (Int.toNat n19) fun x11 =>
 (cond ((decide (((0 : Int) ≤ n19))) && (decide ((n19 < (((List.length l16) : Nat) : Int)))))
 (elemK l16 (Int.toNat n19) fun x12 =>
 (cond (Nat.blt (Int.toNat n19) (List.length l16))
 (cond (Go.Eng.roomOk ((List.length l4) + (List.length [n19])) 8)
 (ag (IntKind.wrap IntKind.i64 (n2 + (1 : Int))) (cond (Nat.beq (List.length [n19]) 0) b8 false) (l4 ++ [n19]) l15 (nset l16 (Int.toNat n19) (IntKind.wrap IntKind.i64 (x11 - (1 : Int)))) l17)
 none)
 none))
 none))
 none)
 (cond (Go.Eng.roomOk ((List.length l4) + (List.length [n19])) 8)
 (ag (IntKind.wrap IntKind.i64 (n2 + (1 : Int))) (cond (Nat.beq (List.length [n19]) 0) b8 false) (l4 ++ [n19]) l15 l16 l17)
 none))))
 (kN b8 l4 l5))
noncomputable def ga_s_impl_RunDeadline_w_0 (N : Nat) (G_impl_yin : ∀ {R : Type} (n : Int) (n1 : Int) (n2 : Int) (k : Bool → Option R), Option R) (G_impl_ytasksOk_r : ∀ {R : Type} (b : Bool) (l : List RtTask) (k : Bool → Option R), Option R) {R : Type} (b3 : Bool) (b4 : Bool) (b5 : Bool) (n1 : Int) (l1 : List RtTask) (n3 : Int) (b6 : Bool) (b7 : Bool) (l2 : List Int) (l3 : List Int) (n4 : Int) (b9 : Bool) (n2 : Int) (b8 : Bool) (l4 : List Int) (l5 : List Int) (l6 : List Int) (l7 : List Int) (ag : Int → Bool → (List Int) → (List Int) → (List Int) → (List Int) → Option R)  (kN : Bool → (List Int) → (List Int) → Option R) : Option R :=
 (cond (decide ((n2 < n1)))
 (c_impl_RunDeadline_w_2 N b3 b4 b5 n2 n1 n2 b3 (((List.length l1) : Nat) : Int) l1 n3 b6 b7 l2 l3 n4 b8 b9 l4 (0 : Int) l5 l6 l7 fun l15 l16 l17 =>
 (c_impl_RunDeadline_w_4 N b3 b4 b5 n1 n2 (((List.length l1) : Nat) : Int) l1 n3 b6 b7 l2 l3 n4 b8 b9 l4 l15 l16 l17 (-(1 : Int)) (0 : Int) fun n19 =>
 (cond (decide ((n19 ≥ (0 : Int))))
 (cond ((decide (((0 : Int) ≤ n19))) && (decide ((n19 < (((List.length l16) : Nat) : Int)))))
 (elemK l16 (Int.toNat n19) fun x11 =>
 (cond ((decide (((0 : Int) ≤ n19))) && (decide ((n19 < (((List.length l16) : Nat) : Int)))))
 (elemK l16 (Int.toNat n19) fun x12 =>
 (cond (Nat.blt (Int.toNat n19) (List.length l16))
 (cond (Go.Eng.roomOk ((List.length l4) + (List.length [n19])) 8)
 (ag (IntKind.wrap IntKind.i64 (n2 + (1 : Int))) (cond (Nat.beq (List.length [n19]) 0) b8 false) (l4 ++ [n19]) l15 (nset l16 (Int.toNat n19) (IntKind.wrap IntKind.i64 (x11 - (1 : Int)))) l17)
 none)
 none))
 none))
 none)
 (cond (Go.Eng.roomOk ((List.length l4) + (List.length [n19])) 8)
 (ag (IntKind.wrap IntKind.i64 (n2 + (1 : Int))) (cond (Nat.beq (List.length [n19]) 0) b8 false) (l4 ++ [n19]) l15 l16 l17)
 none))))
 (kN b8 l4 l5))
noncomputable def l_impl_RunDeadline_w_0 (N : Nat) {R : Type} (b3 : Bool) (b4 : Bool) (b5 : Bool) (n1 : Int) (l1 : List RtTask) (n3 : Int) (b6 : Bool) (b7 : Bool) (l2 : List Int) (l3 : List Int) (n4 : Int) (b9 : Bool) (kN : Bool → (List Int) → (List Int) → Option R) : Nat → Int → Bool → (List Int) → (List Int) → (List Int) → (List Int) → Option R
 | 0, _, _, _, _, _, _ => none
 | f + 1, n2, b8, l4, l5, l6, l7 => s_impl_RunDeadline_w_0 N b3 b4 b5 n1 l1 n3 b6 b7 l2 l3 n4 b9 n2 b8 l4 l5 l6 l7 (fun n2 b8 l4 l5 l6 l7 => l_impl_RunDeadline_w_0 N b3 b4 b5 n1 l1 n3 b6 b7 l2 l3 n4 b9 kN f n2 b8 l4 l5 l6 l7)  kN
noncomputable def c_impl_RunDeadline_w_0 (N : Nat) {R : Type} (b3 : Bool) (b4 : Bool) (b5 : Bool) (n1 : Int) (l1 : List RtTask) (n3 : Int) (b6 : Bool) (b7 : Bool) (l2 : List Int) (l3 : List Int) (n4 : Int) (b9 : Bool) (n2 : Int) (b8 : Bool) (l4 : List Int) (l5 : List Int) (l6 : List Int) (l7 : List Int) (kN : Bool → (List Int) → (List Int) → Option R) : Option R := l_impl_RunDeadline_w_0 N b3 b4 b5 n1 l1 n3 b6 b7 l2 l3 n4 b9 kN N n2 b8 l4 l5 l6 l7
theorem ea_se_impl_RunDeadline_w_0 (N : Nat) (G_impl_yin : ∀ {R : Type} (n : Int) (n1 : Int) (n2 : Int) (k : Bool → Option R), Option R) (G_impl_ytasksOk_r : ∀ {R : Type} (b : Bool) (l : List RtTask) (k : Bool → Option R), Option R) {R : Type} (b3 : Bool) (b4 : Bool) (b5 : Bool) (n1 : Int) (l1 : List RtTask) (n3 : Int) (b6 : Bool) (b7 : Bool) (l2 : List Int) (l3 : List Int) (n4 : Int) (b9 : Bool) (n2 : Int) (b8 : Bool) (l4 : List Int) (l5 : List Int) (l6 : List Int) (l7 : List Int) (AG : List (Option AV) → Hp E → Option R) (KL : Ex → List (Option AV) → Hp E → Option R) :
    iterStep (E := E) (OA_impl_RunDeadline_w N G_impl_yin G_impl_ytasksOk_r) (fun {R} => LI (IT_impl_RunDeadline_w_4 N) 1 129 sl_impl_RunDeadline_w (R := R)) J_impl_RunDeadline_w 1 129 0 [0, 4, 5, 6, 7, 36, 37] [4, 5] (body Try.f7 0) AG KL [(some (AV.sc (SV.slc 0 none b3))), (some (AV.sc (SV.ptr 1 0 0))), (some (AV.sc (SV.ptr 4 0 0))), (some (AV.sc (SV.slc 7 none b4))), (some (AV.sc (SV.slc 8 none b5))), (some (AV.sc (SV.int IntKind.i64 n1))), (some (AV.sc (SV.int IntKind.i64 n2)))] [(some (HE.mk false (HB.rows (B.iRtTask l1)))), (some (HE.mk false (HB.exp none [(SV.int IntKind.i64 n3), (SV.slc 2 none b6), (SV.slc 3 none b7)]))), (some (HE.mk false (HB.rows (B.i64 l2)))), (some (HE.mk false (HB.rows (B.i64 l3)))), (some (HE.mk false (HB.exp none [(SV.int IntKind.i64 n4), (SV.slc 5 none b8), (SV.slc 6 none b9)]))), (some (HE.mk false (HB.rows (B.i64 l4)))), (some (HE.mk false (HB.rows (B.i64 l5)))), (some (HE.mk false (HB.rows (B.i64 l6)))), (some (HE.mk false (HB.rows (B.i64 l7))))] =
      ga_s_impl_RunDeadline_w_0 N G_impl_yin G_impl_ytasksOk_r b3 b4 b5 n1 l1 n3 b6 b7 l2 l3 n4 b9 n2 b8 l4 l5 l6 l7 (fun n2 b8 l4 l5 l6 l7 => AG [(some (AV.sc (SV.slc 0 none b3))), (some (AV.sc (SV.ptr 1 0 0))), (some (AV.sc (SV.ptr 4 0 0))), (some (AV.sc (SV.slc 7 none b4))), (some (AV.sc (SV.slc 8 none b5))), (some (AV.sc (SV.int IntKind.i64 n1))), (some (AV.sc (SV.int IntKind.i64 n2)))] [(some (HE.mk false (HB.rows (B.iRtTask l1)))), (some (HE.mk false (HB.exp none [(SV.int IntKind.i64 n3), (SV.slc 2 none b6), (SV.slc 3 none b7)]))), (some (HE.mk false (HB.rows (B.i64 l2)))), (some (HE.mk false (HB.rows (B.i64 l3)))), (some (HE.mk false (HB.exp none [(SV.int IntKind.i64 n4), (SV.slc 5 none b8), (SV.slc 6 none b9)]))), (some (HE.mk false (HB.rows (B.i64 l4)))), (some (HE.mk false (HB.rows (B.i64 l5)))), (some (HE.mk false (HB.rows (B.i64 l6)))), (some (HE.mk false (HB.rows (B.i64 l7))))])  (fun b28 l35 l36 => KL Ex.normal [(some (AV.sc (SV.ptr 1 0 0))), (some (AV.sc (SV.ptr 4 0 0)))] [(some (HE.mk false (HB.rows (B.iRtTask l1)))), (some (HE.mk false (HB.exp none [(SV.int IntKind.i64 n3), (SV.slc 2 none b6), (SV.slc 3 none b7)]))), (some (HE.mk false (HB.rows (B.i64 l2)))), (some (HE.mk false (HB.rows (B.i64 l3)))), (some (HE.mk false (HB.exp none [(SV.int IntKind.i64 n4), (SV.slc 5 none b28), (SV.slc 6 none b9)]))), (some (HE.mk false (HB.rows (B.i64 l35)))), (some (HE.mk false (HB.rows (B.i64 l36))))]) := by kernel_rfl
theorem se_impl_RunDeadline_w_0 (N : Nat) {R : Type} (b3 : Bool) (b4 : Bool) (b5 : Bool) (n1 : Int) (l1 : List RtTask) (n3 : Int) (b6 : Bool) (b7 : Bool) (l2 : List Int) (l3 : List Int) (n4 : Int) (b9 : Bool) (n2 : Int) (b8 : Bool) (l4 : List Int) (l5 : List Int) (l6 : List Int) (l7 : List Int) (AG : List (Option AV) → Hp E → Option R) (KL : Ex → List (Option AV) → Hp E → Option R) :
    iterStep (E := E) (O_impl_RunDeadline_w N) (fun {R} => LI (IT_impl_RunDeadline_w_4 N) 1 129 sl_impl_RunDeadline_w (R := R)) J_impl_RunDeadline_w 1 129 0 [0, 4, 5, 6, 7, 36, 37] [4, 5] (body Try.f7 0) AG KL [(some (AV.sc (SV.slc 0 none b3))), (some (AV.sc (SV.ptr 1 0 0))), (some (AV.sc (SV.ptr 4 0 0))), (some (AV.sc (SV.slc 7 none b4))), (some (AV.sc (SV.slc 8 none b5))), (some (AV.sc (SV.int IntKind.i64 n1))), (some (AV.sc (SV.int IntKind.i64 n2)))] [(some (HE.mk false (HB.rows (B.iRtTask l1)))), (some (HE.mk false (HB.exp none [(SV.int IntKind.i64 n3), (SV.slc 2 none b6), (SV.slc 3 none b7)]))), (some (HE.mk false (HB.rows (B.i64 l2)))), (some (HE.mk false (HB.rows (B.i64 l3)))), (some (HE.mk false (HB.exp none [(SV.int IntKind.i64 n4), (SV.slc 5 none b8), (SV.slc 6 none b9)]))), (some (HE.mk false (HB.rows (B.i64 l4)))), (some (HE.mk false (HB.rows (B.i64 l5)))), (some (HE.mk false (HB.rows (B.i64 l6)))), (some (HE.mk false (HB.rows (B.i64 l7))))] =
      s_impl_RunDeadline_w_0 N b3 b4 b5 n1 l1 n3 b6 b7 l2 l3 n4 b9 n2 b8 l4 l5 l6 l7 (fun n2 b8 l4 l5 l6 l7 => AG [(some (AV.sc (SV.slc 0 none b3))), (some (AV.sc (SV.ptr 1 0 0))), (some (AV.sc (SV.ptr 4 0 0))), (some (AV.sc (SV.slc 7 none b4))), (some (AV.sc (SV.slc 8 none b5))), (some (AV.sc (SV.int IntKind.i64 n1))), (some (AV.sc (SV.int IntKind.i64 n2)))] [(some (HE.mk false (HB.rows (B.iRtTask l1)))), (some (HE.mk false (HB.exp none [(SV.int IntKind.i64 n3), (SV.slc 2 none b6), (SV.slc 3 none b7)]))), (some (HE.mk false (HB.rows (B.i64 l2)))), (some (HE.mk false (HB.rows (B.i64 l3)))), (some (HE.mk false (HB.exp none [(SV.int IntKind.i64 n4), (SV.slc 5 none b8), (SV.slc 6 none b9)]))), (some (HE.mk false (HB.rows (B.i64 l4)))), (some (HE.mk false (HB.rows (B.i64 l5)))), (some (HE.mk false (HB.rows (B.i64 l6)))), (some (HE.mk false (HB.rows (B.i64 l7))))])  (fun b28 l35 l36 => KL Ex.normal [(some (AV.sc (SV.ptr 1 0 0))), (some (AV.sc (SV.ptr 4 0 0)))] [(some (HE.mk false (HB.rows (B.iRtTask l1)))), (some (HE.mk false (HB.exp none [(SV.int IntKind.i64 n3), (SV.slc 2 none b6), (SV.slc 3 none b7)]))), (some (HE.mk false (HB.rows (B.i64 l2)))), (some (HE.mk false (HB.rows (B.i64 l3)))), (some (HE.mk false (HB.exp none [(SV.int IntKind.i64 n4), (SV.slc 5 none b28), (SV.slc 6 none b9)]))), (some (HE.mk false (HB.rows (B.i64 l35)))), (some (HE.mk false (HB.rows (B.i64 l36))))]) := castPr (by kernel_rfl) (ea_se_impl_RunDeadline_w_0 N (g_impl_yin N) (g_impl_ytasksOk_r N) b3 b4 b5 n1 l1 n3 b6 b7 l2 l3 n4 b9 n2 b8 l4 l5 l6 l7 AG KL)
theorem le_impl_RunDeadline_w_0 (N : Nat) {R : Type} (b3 : Bool) (b4 : Bool) (b5 : Bool) (n1 : Int) (l1 : List RtTask) (n3 : Int) (b6 : Bool) (b7 : Bool) (l2 : List Int) (l3 : List Int) (n4 : Int) (b9 : Bool) (KL : Ex → List (Option AV) → Hp E → Option R) : ∀ (f : Nat), ∀ (n2 : Int) (b8 : Bool) (l4 : List Int) (l5 : List Int) (l6 : List Int) (l7 : List Int), iterK (E := E) (O_impl_RunDeadline_w N) (fun {R} => LI (IT_impl_RunDeadline_w_4 N) 1 129 sl_impl_RunDeadline_w (R := R)) J_impl_RunDeadline_w 1 129 0 [0, 4, 5, 6, 7, 36, 37] [4, 5] (body Try.f7 0) f [(some (AV.sc (SV.slc 0 none b3))), (some (AV.sc (SV.ptr 1 0 0))), (some (AV.sc (SV.ptr 4 0 0))), (some (AV.sc (SV.slc 7 none b4))), (some (AV.sc (SV.slc 8 none b5))), (some (AV.sc (SV.int IntKind.i64 n1))), (some (AV.sc (SV.int IntKind.i64 n2)))] [(some (HE.mk false (HB.rows (B.iRtTask l1)))), (some (HE.mk false (HB.exp none [(SV.int IntKind.i64 n3), (SV.slc 2 none b6), (SV.slc 3 none b7)]))), (some (HE.mk false (HB.rows (B.i64 l2)))), (some (HE.mk false (HB.rows (B.i64 l3)))), (some (HE.mk false (HB.exp none [(SV.int IntKind.i64 n4), (SV.slc 5 none b8), (SV.slc 6 none b9)]))), (some (HE.mk false (HB.rows (B.i64 l4)))), (some (HE.mk false (HB.rows (B.i64 l5)))), (some (HE.mk false (HB.rows (B.i64 l6)))), (some (HE.mk false (HB.rows (B.i64 l7))))] KL = l_impl_RunDeadline_w_0 N b3 b4 b5 n1 l1 n3 b6 b7 l2 l3 n4 b9 (fun b28 l35 l36 => KL Ex.normal [(some (AV.sc (SV.ptr 1 0 0))), (some (AV.sc (SV.ptr 4 0 0)))] [(some (HE.mk false (HB.rows (B.iRtTask l1)))), (some (HE.mk false (HB.exp none [(SV.int IntKind.i64 n3), (SV.slc 2 none b6), (SV.slc 3 none b7)]))), (some (HE.mk false (HB.rows (B.i64 l2)))), (some (HE.mk false (HB.rows (B.i64 l3)))), (some (HE.mk false (HB.exp none [(SV.int IntKind.i64 n4), (SV.slc 5 none b28), (SV.slc 6 none b9)]))), (some (HE.mk false (HB.rows (B.i64 l35)))), (some (HE.mk false (HB.rows (B.i64 l36))))]) f n2 b8 l4 l5 l6 l7 := by
  intro f
  induction f with
  | zero => intros; rfl
  | succ f ih =>
    intro n2 b8 l4 l5 l6 l7
    rw [iterK_succ, se_impl_RunDeadline_w_0]
    exact (congrArg (fun z0 => s_impl_RunDeadline_w_0 N b3 b4 b5 n1 l1 n3 b6 b7 l2 l3 n4 b9 n2 b8 l4 l5 l6 l7 z0 (fun b28 l35 l36 => KL Ex.normal [(some (AV.sc (SV.ptr 1 0 0))), (some (AV.sc (SV.ptr 4 0 0)))] [(some (HE.mk false (HB.rows (B.iRtTask l1)))), (some (HE.mk false (HB.exp none [(SV.int IntKind.i64 n3), (SV.slc 2 none b6), (SV.slc 3 none b7)]))), (some (HE.mk false (HB.rows (B.i64 l2)))), (some (HE.mk false (HB.rows (B.i64 l3)))), (some (HE.mk false (HB.exp none [(SV.int IntKind.i64 n4), (SV.slc 5 none b28), (SV.slc 6 none b9)]))), (some (HE.mk false (HB.rows (B.i64 l35)))), (some (HE.mk false (HB.rows (B.i64 l36))))])) (funext fun n2 => funext fun b8 => funext fun l4 => funext fun l5 => funext fun l6 => funext fun l7 => ih n2 b8 l4 l5 l6 l7))
noncomputable def i_impl_RunDeadline_w_0 (N : Nat) {R : Type} (vs : List (Option AV)) (H : Hp E) (KL : Ex → List (Option AV) → Hp E → Option R) : Option R :=
 match vs, H with
 | [(some (AV.sc (SV.slc 0 none b3))), (some (AV.sc (SV.ptr 1 0 0))), (some (AV.sc (SV.ptr 4 0 0))), (some (AV.sc (SV.slc 7 none b4))), (some (AV.sc (SV.slc 8 none b5))), (some (AV.sc (SV.int IntKind.i64 n1))), (some (AV.sc (SV.int IntKind.i64 n2)))], [(some (HE.mk false (HB.rows (B.iRtTask l1)))), (some (HE.mk false (HB.exp none [(SV.int IntKind.i64 n3), (SV.slc 2 none b6), (SV.slc 3 none b7)]))), (some (HE.mk false (HB.rows (B.i64 l2)))), (some (HE.mk false (HB.rows (B.i64 l3)))), (some (HE.mk false (HB.exp none [(SV.int IntKind.i64 n4), (SV.slc 5 none b8), (SV.slc 6 none b9)]))), (some (HE.mk false (HB.rows (B.i64 l4)))), (some (HE.mk false (HB.rows (B.i64 l5)))), (some (HE.mk false (HB.rows (B.i64 l6)))), (some (HE.mk false (HB.rows (B.i64 l7))))] => c_impl_RunDeadline_w_0 N b3 b4 b5 n1 l1 n3 b6 b7 l2 l3 n4 b9 n2 b8 l4 l5 l6 l7 (fun b29 l37 l38 => KL Ex.normal [(some (AV.sc (SV.ptr 1 0 0))), (some (AV.sc (SV.ptr 4 0 0)))] [(some (HE.mk false (HB.rows (B.iRtTask l1)))), (some (HE.mk false (HB.exp none [(SV.int IntKind.i64 n3), (SV.slc 2 none b6), (SV.slc 3 none b7)]))), (some (HE.mk false (HB.rows (B.i64 l2)))), (some (HE.mk false (HB.rows (B.i64 l3)))), (some (HE.mk false (HB.exp none [(SV.int IntKind.i64 n4), (SV.slc 5 none b29), (SV.slc 6 none b9)]))), (some (HE.mk false (HB.rows (B.i64 l37)))), (some (HE.mk false (HB.rows (B.i64 l38))))])
 | _, _ => none
noncomputable def IT_impl_RunDeadline_w_0 (N : Nat) : Its E := addIt 0 (i_impl_RunDeadline_w_0 N) (IT_impl_RunDeadline_w_4 N)
theorem IT_impl_RunDeadline_w_0_ok (N : Nat) : ItOk (IT_impl_RunDeadline_w_0 N) 1 129 sl_impl_RunDeadline_w (lsB Try.f7 [0, 4, 2]) :=
  addItB_ok (inner := [2, 4]) ok (O_impl_RunDeadline_w_ok N) (jn_ok _ _ _) (IT_impl_RunDeadline_w_4_ok N) rfl (by kernel_rfl) rfl fun vs H KL r h => by
    unfold i_impl_RunDeadline_w_0 at h
    split at h
    · exact ⟨_, (le_impl_RunDeadline_w_0 N _ _ _ _ _ _ _ _ _ _ _ _ KL N _ _ _ _ _ _).trans h⟩
    · cases h
noncomputable def g_impl_RunDeadline_w (N : Nat) {R : Type} (b : Bool) (n : Int) (l : List RtTask) (k : Int → Bool → Bool → (List Int) → (List Int) → Option R) : Option R :=
 (cond (decide (((((List.length l) : Nat) : Int) > (1000 : Int))))
 (k (2 : Int) true true [] [])
 (oK (g_impl_ytasksOk_r N b l fun b1 =>
 (cond (!b1)
 (some true)
 (g_impl_yin N n (0 : Int) (1000 : Int) fun b2 =>
 (some (!b2))))) fun j =>
 (cond j
 (k (1 : Int) true true [] [])
 (cond (((decide (((((List.length l) : Nat) : Int) = (((List.length l) : Nat) : Int)))) && true) && (Go.Eng.roomOk (Int.toNat (((List.length l) : Nat) : Int)) 8))
 (cond (((decide (((((List.length l) : Nat) : Int) = (((List.length l) : Nat) : Int)))) && true) && (Go.Eng.roomOk (Int.toNat (((List.length l) : Nat) : Int)) 8))
 (cond (((decide (((((List.length l) : Nat) : Int) = (((List.length l) : Nat) : Int)))) && true) && (Go.Eng.roomOk (Int.toNat (((List.length l) : Nat) : Int)) 8))
 (c_impl_RunDeadline_w_0 N b false false n l (0 : Int) true true [] [] (0 : Int) false (0 : Int) true [] (List.replicate (Int.toNat (((List.length l) : Nat) : Int)) (0 : Int)) (List.replicate (Int.toNat (((List.length l) : Nat) : Int)) (0 : Int)) (List.replicate (Int.toNat (((List.length l) : Nat) : Int)) (0 : Int)) fun b25 l25 l26 =>
 (k (0 : Int) b25 false l25 l26))
 none)
 none)
 none))))
noncomputable def ga_g_impl_RunDeadline_w (N : Nat) (G_impl_yin : ∀ {R : Type} (n : Int) (n1 : Int) (n2 : Int) (k : Bool → Option R), Option R) (G_impl_ytasksOk_r : ∀ {R : Type} (b : Bool) (l : List RtTask) (k : Bool → Option R), Option R) {R : Type} (b : Bool) (n : Int) (l : List RtTask) (k : Int → Bool → Bool → (List Int) → (List Int) → Option R) : Option R :=
 (cond (decide (((((List.length l) : Nat) : Int) > (1000 : Int))))
 (k (2 : Int) true true [] [])
 (oK (G_impl_ytasksOk_r b l fun b1 =>
 (cond (!b1)
 (some true)
 (G_impl_yin n (0 : Int) (1000 : Int) fun b2 =>
 (some (!b2))))) fun j =>
 (cond j
 (k (1 : Int) true true [] [])
 (cond (((decide (((((List.length l) : Nat) : Int) = (((List.length l) : Nat) : Int)))) && true) && (Go.Eng.roomOk (Int.toNat (((List.length l) : Nat) : Int)) 8))
 (cond (((decide (((((List.length l) : Nat) : Int) = (((List.length l) : Nat) : Int)))) && true) && (Go.Eng.roomOk (Int.toNat (((List.length l) : Nat) : Int)) 8))
 (cond (((decide (((((List.length l) : Nat) : Int) = (((List.length l) : Nat) : Int)))) && true) && (Go.Eng.roomOk (Int.toNat (((List.length l) : Nat) : Int)) 8))
 (c_impl_RunDeadline_w_0 N b false false n l (0 : Int) true true [] [] (0 : Int) false (0 : Int) true [] (List.replicate (Int.toNat (((List.length l) : Nat) : Int)) (0 : Int)) (List.replicate (Int.toNat (((List.length l) : Nat) : Int)) (0 : Int)) (List.replicate (Int.toNat (((List.length l) : Nat) : Int)) (0 : Int)) fun b25 l25 l26 =>
 (k (0 : Int) b25 false l25 l26))
 none)
 none)
 none))))
theorem ea_e_impl_RunDeadline_w (N : Nat) (G_impl_yin : ∀ {R : Type} (n : Int) (n1 : Int) (n2 : Int) (k : Bool → Option R), Option R) (G_impl_ytasksOk_r : ∀ {R : Type} (b : Bool) (l : List RtTask) (k : Bool → Option R), Option R) {R : Type} (b : Bool) (n : Int) (l : List RtTask) (K : AV → Hp E → Option R) :
    runFnI (E := E) (OA_impl_RunDeadline_w N G_impl_yin G_impl_ytasksOk_r) (IT_impl_RunDeadline_w_0 N) sl_impl_RunDeadline_w J_impl_RunDeadline_w Try.f7 [(AV.sc (SV.slc 0 none b)), (AV.sc (SV.int IntKind.i64 n))] [(some (HE.mk false (HB.rows (B.iRtTask l))))] K =
      ga_g_impl_RunDeadline_w N G_impl_yin G_impl_ytasksOk_r b n l (fun n20 b26 b27 l27 l28 => K (AV.agg [(SV.int IntKind.i64 n20), (SV.slc 1 none b26), (SV.slc 2 none b27)]) [(some (HE.mk false (HB.rows (B.iRtTask l)))), (some (HE.mk false (HB.rows (B.i64 l27)))), (some (HE.mk false (HB.rows (B.i64 l28))))]) := by kernel_rfl
theorem e_impl_RunDeadline_w (N : Nat) {R : Type} (b : Bool) (n : Int) (l : List RtTask) (K : AV → Hp E → Option R) :
    runFnI (E := E) (O_impl_RunDeadline_w N) (IT_impl_RunDeadline_w_0 N) sl_impl_RunDeadline_w J_impl_RunDeadline_w Try.f7 [(AV.sc (SV.slc 0 none b)), (AV.sc (SV.int IntKind.i64 n))] [(some (HE.mk false (HB.rows (B.iRtTask l))))] K =
      g_impl_RunDeadline_w N b n l (fun n20 b26 b27 l27 l28 => K (AV.agg [(SV.int IntKind.i64 n20), (SV.slc 1 none b26), (SV.slc 2 none b27)]) [(some (HE.mk false (HB.rows (B.iRtTask l)))), (some (HE.mk false (HB.rows (B.i64 l27)))), (some (HE.mk false (HB.rows (B.i64 l28))))]) := castPr (by kernel_rfl) (ea_e_impl_RunDeadline_w N (g_impl_yin N) (g_impl_ytasksOk_r N) b n l K)
noncomputable def o_impl_RunDeadline_w (N : Nat) {R : Type} (args : List AV) (H : Hp E) (K : AV → Hp E → Option R) : Option R :=
 match args, H with
 | [(AV.sc (SV.slc 0 none b)), (AV.sc (SV.int IntKind.i64 n))], [(some (HE.mk false (HB.rows (B.iRtTask l))))] => g_impl_RunDeadline_w N b n l (fun n20 b26 b27 l27 l28 => K (AV.agg [(SV.int IntKind.i64 n20), (SV.slc 1 none b26), (SV.slc 2 none b27)]) [(some (HE.mk false (HB.rows (B.iRtTask l)))), (some (HE.mk false (HB.rows (B.i64 l27)))), (some (HE.mk false (HB.rows (B.i64 l28))))])
 | _, _ => none
theorem o_impl_RunDeadline_w_ok (N : Nat) : FnOk E 7 (o_impl_RunDeadline_w N) := by
  intro R args H K r h
  unfold o_impl_RunDeadline_w at h
  dsimp only at h
  split at h
  · exact fnB_ok (ids := [0, 4, 2]) (top := [0]) ok (O_impl_RunDeadline_w_ok N) (jn_ok _ _ _) Try.func7 (by kernel_rfl) (IT := IT_impl_RunDeadline_w_0 N) (sl := sl_impl_RunDeadline_w) (J := J_impl_RunDeadline_w) (K := K) (H := [(some (HE.mk false (HB.rows (B.iRtTask _))))]) (IT_impl_RunDeadline_w_0_ok N) (by kernel_rfl) rfl ((e_impl_RunDeadline_w N _ _ _ K).trans h)
  · cases h
end Go.Sa
