import Derived.Test.YtflmjaehnbnjnaaSpec
import Derived.Test.YtflmjaehnbnjnaaPLb
import Derived.Test.YtflmjaehnbnjnaaW4
set_option linter.all false
namespace Go.Sa
open Go Go.Eng Go.Proofs
set_option maxRecDepth 100000
set_option maxHeartbeats 4000000
/-! ### (*loop.example/g00038/spec.l01Src).dma -/
abbrev sl_spec_l01Src_dma_Wr : SlotT := []
abbrev J_spec_l01Src_dma_Wr : JT := jn [] [(15, [(6, .i .i64)])] [(5, [3])]
noncomputable def O_spec_l01Src_dma_Wr (N : Nat) : Orc E := addFn 26 (o_spec_l01Src_one_Wr N) (addFn 27 (o_spec_l01Src_n_Wr N) (addFn 29 (o_spec_l01Src_va_Wr N) (addFn 28 (o_spec_l01Src_tables_Wr N) (noFn))))
noncomputable def pa_spec_l01Src_dma_Wr__o_spec_l01Src_one_Wr (N : Nat) (G_spec_l01Src_one_Wr : ∀ {R : Type} (n : Int) (b : Bool) (n1 : Int) (n2 : Int) (n3 : Int) (l : List Int) (k : Bool → Int → Int → Option R), Option R) {R : Type} (args : List AV) (H : Hp E) (K : AV → Hp E → Option R) : Option R :=
 match args, H with
 | [(AV.sc (SV.ptr 0 0 0)), (AV.sc (SV.int IntKind.i64 n))], [(some (HE.mk false (HB.exp none [(SV.slc 1 none b), (SV.int IntKind.i64 n1), (SV.int IntKind.u64 n2), (SV.int IntKind.i64 n3)]))), (some (HE.mk true (HB.rows (B.u8 l))))] => G_spec_l01Src_one_Wr n b n1 n2 n3 l (fun b1 n7 n8 => K (AV.sc (SV.bool b1)) [(some (HE.mk false (HB.exp none [(SV.slc 1 none b), (SV.int IntKind.i64 n7), (SV.int IntKind.u64 n8), (SV.int IntKind.i64 n3)]))), (some (HE.mk true (HB.rows (B.u8 l))))])
 | _, _ => none
noncomputable def pa_spec_l01Src_dma_Wr__o_spec_l01Src_n_Wr (N : Nat) (G_spec_l01Src_n_Wr : ∀ {R : Type} (n : Int) (b : Bool) (n1 : Int) (n2 : Int) (n3 : Int) (l : List Int) (k : Int → Int → Int → Option R), Option R) {R : Type} (args : List AV) (H : Hp E) (K : AV → Hp E → Option R) : Option R :=
 match args, H with
 | [(AV.sc (SV.ptr 0 0 0)), (AV.sc (SV.int IntKind.i64 n))], [(some (HE.mk false (HB.exp none [(SV.slc 1 none b), (SV.int IntKind.i64 n1), (SV.int IntKind.u64 n2), (SV.int IntKind.i64 n3)]))), (some (HE.mk true (HB.rows (B.u8 l))))] => G_spec_l01Src_n_Wr n b n1 n2 n3 l (fun n4 n5 n6 => K (AV.sc (SV.int IntKind.i64 n4)) [(some (HE.mk false (HB.exp none [(SV.slc 1 none b), (SV.int IntKind.i64 n5), (SV.int IntKind.u64 n6), (SV.int IntKind.i64 n3)]))), (some (HE.mk true (HB.rows (B.u8 l))))])
 | _, _ => none
noncomputable def pa_spec_l01Src_dma_Wr__o_spec_l01Src_va_Wr (N : Nat) (G_spec_l01Src_va_Wr : ∀ {R : Type} (b : Bool) (n : Int) (n1 : Int) (n2 : Int) (l : List Int) (k : Int → Int → Int → Option R), Option R) {R : Type} (args : List AV) (H : Hp E) (K : AV → Hp E → Option R) : Option R :=
 match args, H with
 | [(AV.sc (SV.ptr 0 0 0))], [(some (HE.mk false (HB.exp none [(SV.slc 1 none b), (SV.int IntKind.i64 n), (SV.int IntKind.u64 n1), (SV.int IntKind.i64 n2)]))), (some (HE.mk true (HB.rows (B.u8 l))))] => G_spec_l01Src_va_Wr b n n1 n2 l (fun n14 n15 n16 => K (AV.sc (SV.int IntKind.i64 n14)) [(some (HE.mk false (HB.exp none [(SV.slc 1 none b), (SV.int IntKind.i64 n15), (SV.int IntKind.u64 n16), (SV.int IntKind.i64 n2)]))), (some (HE.mk true (HB.rows (B.u8 l))))])
 | _, _ => none
noncomputable def pa_spec_l01Src_dma_Wr__o_spec_l01Src_tables_Wr (N : Nat) (G_spec_l01Src_tables_Wr : ∀ {R : Type} (b : Bool) (n : Int) (n1 : Int) (n2 : Int) (l : List Int) (k : ByteArray → Bool → Int → Int → Int → (List Int) → Option R), Option R) {R : Type} (args : List AV) (H : Hp E) (K : AV → Hp E → Option R) : Option R :=
 match args, H with
 | [(AV.sc (SV.ptr 0 0 0))], [(some (HE.mk false (HB.exp none [(SV.slc 1 none b), (SV.int IntKind.i64 n), (SV.int IntKind.u64 n1), (SV.int IntKind.i64 n2)]))), (some (HE.mk true (HB.rows (B.u8 l))))] => G_spec_l01Src_tables_Wr b n n1 n2 l (fun s15 b17 n71 n72 n73 l19 => K (AV.sc (SV.str s15)) [(some (HE.mk false (HB.exp none [(SV.slc 1 none b17), (SV.int IntKind.i64 n71), (SV.int IntKind.u64 n72), (SV.int IntKind.i64 n73)]))), (some (HE.mk true (HB.rows (B.u8 l19))))])
 | _, _ => none
noncomputable def OA_spec_l01Src_dma_Wr (N : Nat) (G_spec_l01Src_one_Wr : ∀ {R : Type} (n : Int) (b : Bool) (n1 : Int) (n2 : Int) (n3 : Int) (l : List Int) (k : Bool → Int → Int → Option R), Option R) (G_spec_l01Src_n_Wr : ∀ {R : Type} (n : Int) (b : Bool) (n1 : Int) (n2 : Int) (n3 : Int) (l : List Int) (k : Int → Int → Int → Option R), Option R) (G_spec_l01Src_va_Wr : ∀ {R : Type} (b : Bool) (n : Int) (n1 : Int) (n2 : Int) (l : List Int) (k : Int → Int → Int → Option R), Option R) (G_spec_l01Src_tables_Wr : ∀ {R : Type} (b : Bool) (n : Int) (n1 : Int) (n2 : Int) (l : List Int) (k : ByteArray → Bool → Int → Int → Int → (List Int) → Option R), Option R) : Orc E := addFn 26 (pa_spec_l01Src_dma_Wr__o_spec_l01Src_one_Wr N G_spec_l01Src_one_Wr) (addFn 27 (pa_spec_l01Src_dma_Wr__o_spec_l01Src_n_Wr N G_spec_l01Src_n_Wr) (addFn 29 (pa_spec_l01Src_dma_Wr__o_spec_l01Src_va_Wr N G_spec_l01Src_va_Wr) (addFn 28 (pa_spec_l01Src_dma_Wr__o_spec_l01Src_tables_Wr N G_spec_l01Src_tables_Wr) (noFn))))
theorem O_spec_l01Src_dma_Wr_ok (N : Nat) : OrcOk (O_spec_l01Src_dma_Wr N) := addFn_ok (o_spec_l01Src_one_Wr_ok N) (addFn_ok (o_spec_l01Src_n_Wr_ok N) (addFn_ok (o_spec_l01Src_va_Wr_ok N) (addFn_ok (o_spec_l01Src_tables_Wr_ok N) (noFn_ok))))
noncomputable def g_spec_l01Src_dma_Wr (N : Nat) {R : Type} (b : Bool) (n : Int) (n1 : Int) (n2 : Int) (l : List Int) (k : ByteArray → Int → Int → Bool → Int → Int → Int → Option R) : Option R :=
 (g_spec_l01Src_tables_Wr N b n n1 n2 l fun s b1 n3 n4 n5 l1 =>
 (g_spec_l01Src_va_Wr N b1 n3 n4 n5 l fun n6 n7 n8 =>
 (g_spec_l01Src_n_Wr N (5 : Int) b1 n7 n8 n5 l fun n9 n10 n11 =>
 (g_spec_l01Src_one_Wr N (3 : Int) b1 n10 n11 n5 l fun b2 n12 n13 =>
 (oK (cond b2
 (some (IntKind.wrap IntKind.i64 ((IntKind.wrap IntKind.i64 ((IntKind.wrap IntKind.i64 (n6 + n9)) - (Int.tmod (IntKind.wrap IntKind.i64 (n6 + n9)) (256 : Int)))) + (250 : Int))))
 (some (IntKind.wrap IntKind.i64 (n6 + n9)))) fun j =>
 (g_spec_l01Src_n_Wr N (7 : Int) b1 n12 n13 n5 l fun n14 n15 n16 =>
 (cond ((decide (((0 : Int) ≤ n14))) && (decide ((n14 < (7 : Int)))))
 (elemK [(1 : Int), (1 : Int), (1 : Int), (1 : Int), (0 : Int), (-(1 : Int)), (256 : Int)] (Int.toNat n14) fun x =>
 (k s x j b1 n15 n16 n5))
 none)))))))
noncomputable def ga_g_spec_l01Src_dma_Wr (N : Nat) (G_spec_l01Src_one_Wr : ∀ {R : Type} (n : Int) (b : Bool) (n1 : Int) (n2 : Int) (n3 : Int) (l : List Int) (k : Bool → Int → Int → Option R), Option R) (G_spec_l01Src_n_Wr : ∀ {R : Type} (n : Int) (b : Bool) (n1 : Int) (n2 : Int) (n3 : Int) (l : List Int) (k : Int → Int → Int → Option R), Option R) (G_spec_l01Src_va_Wr : ∀ {R : Type} (b : Bool) (n : Int) (n1 : Int) (n2 : Int) (l : List Int) (k : Int → Int → Int → Option R), Option R) (G_spec_l01Src_tables_Wr : ∀ {R : Type} (b : Bool) (n : Int) (n1 : Int) (n2 : Int) (l : List Int) (k : ByteArray → Bool → Int → Int → Int → (List Int) → Option R), Option R) {R : Type} (b : Bool) (n : Int) (n1 : Int) (n2 : Int) (l : List Int) (k : ByteArray → Int → Int → Bool → Int → Int → Int → Option R) : Option R :=
 (G_spec_l01Src_tables_Wr b n n1 n2 l fun s b1 n3 n4 n5 l1 =>
 (G_spec_l01Src_va_Wr b1 n3 n4 n5 l fun n6 n7 n8 =>
 (G_spec_l01Src_n_Wr (5 : Int) b1 n7 n8 n5 l fun n9 n10 n11 =>
 (G_spec_l01Src_one_Wr (3 : Int) b1 n10 n11 n5 l fun b2 n12 n13 =>
 (oK (cond b2
 (some (IntKind.wrap IntKind.i64 ((IntKind.wrap IntKind.i64 ((IntKind.wrap IntKind.i64 (n6 + n9)) - (Int.tmod (IntKind.wrap IntKind.i64 (n6 + n9)) (256 : Int)))) + (250 : Int))))
 (some (IntKind.wrap IntKind.i64 (n6 + n9)))) fun j =>
 (G_spec_l01Src_n_Wr (7 : Int) b1 n12 n13 n5 l fun n14 n15 n16 =>
 (cond ((decide (((0 : Int) ≤ n14))) && (decide ((n14 < (7 : Int)))))
 (elemK [(1 : Int), (1 : Int), (1 : Int), (1 : Int), (0 : Int), (-(1 : Int)), (256 : Int)] (Int.toNat n14) fun x =>
 (k s x j b1 n15 n16 n5))
 none)))))))
theorem ea_e_spec_l01Src_dma_Wr (N : Nat) (G_spec_l01Src_one_Wr : ∀ {R : Type} (n : Int) (b : Bool) (n1 : Int) (n2 : Int) (n3 : Int) (l : List Int) (k : Bool → Int → Int → Option R), Option R) (G_spec_l01Src_n_Wr : ∀ {R : Type} (n : Int) (b : Bool) (n1 : Int) (n2 : Int) (n3 : Int) (l : List Int) (k : Int → Int → Int → Option R), Option R) (G_spec_l01Src_va_Wr : ∀ {R : Type} (b : Bool) (n : Int) (n1 : Int) (n2 : Int) (l : List Int) (k : Int → Int → Int → Option R), Option R) (G_spec_l01Src_tables_Wr : ∀ {R : Type} (b : Bool) (n : Int) (n1 : Int) (n2 : Int) (l : List Int) (k : ByteArray → Bool → Int → Int → Int → (List Int) → Option R), Option R) {R : Type} (b : Bool) (n : Int) (n1 : Int) (n2 : Int) (l : List Int) (K : AV → Hp E → Option R) :
    runFnI (E := E) (OA_spec_l01Src_dma_Wr N G_spec_l01Src_one_Wr G_spec_l01Src_n_Wr G_spec_l01Src_va_Wr G_spec_l01Src_tables_Wr) (noIt) sl_spec_l01Src_dma_Wr J_spec_l01Src_dma_Wr Try.f61 [(AV.sc (SV.ptr 0 0 0))] [(some (HE.mk false (HB.exp none [(SV.slc 1 none b), (SV.int IntKind.i64 n), (SV.int IntKind.u64 n1), (SV.int IntKind.i64 n2)]))), (some (HE.mk true (HB.rows (B.u8 l))))] K =
      ga_g_spec_l01Src_dma_Wr N G_spec_l01Src_one_Wr G_spec_l01Src_n_Wr G_spec_l01Src_va_Wr G_spec_l01Src_tables_Wr b n n1 n2 l (fun s1 n17 n18 b3 n19 n20 n21 => K (AV.tup [(false, [(SV.str s1)]), (false, [(SV.int IntKind.i64 n17)]), (false, [(SV.int IntKind.i64 n18)])]) [(some (HE.mk false (HB.exp none [(SV.slc 1 none b3), (SV.int IntKind.i64 n19), (SV.int IntKind.u64 n20), (SV.int IntKind.i64 n21)]))), (some (HE.mk true (HB.rows (B.u8 l))))]) := by kernel_rfl
theorem e_spec_l01Src_dma_Wr (N : Nat) {R : Type} (b : Bool) (n : Int) (n1 : Int) (n2 : Int) (l : List Int) (K : AV → Hp E → Option R) :
    runFnI (E := E) (O_spec_l01Src_dma_Wr N) (noIt) sl_spec_l01Src_dma_Wr J_spec_l01Src_dma_Wr Try.f61 [(AV.sc (SV.ptr 0 0 0))] [(some (HE.mk false (HB.exp none [(SV.slc 1 none b), (SV.int IntKind.i64 n), (SV.int IntKind.u64 n1), (SV.int IntKind.i64 n2)]))), (some (HE.mk true (HB.rows (B.u8 l))))] K =
      g_spec_l01Src_dma_Wr N b n n1 n2 l (fun s1 n17 n18 b3 n19 n20 n21 => K (AV.tup [(false, [(SV.str s1)]), (false, [(SV.int IntKind.i64 n17)]), (false, [(SV.int IntKind.i64 n18)])]) [(some (HE.mk false (HB.exp none [(SV.slc 1 none b3), (SV.int IntKind.i64 n19), (SV.int IntKind.u64 n20), (SV.int IntKind.i64 n21)]))), (some (HE.mk true (HB.rows (B.u8 l))))]) := castPr (by kernel_rfl) (ea_e_spec_l01Src_dma_Wr N (g_spec_l01Src_one_Wr N) (g_spec_l01Src_n_Wr N) (g_spec_l01Src_va_Wr N) (g_spec_l01Src_tables_Wr N) b n n1 n2 l K)
noncomputable def o_spec_l01Src_dma_Wr (N : Nat) {R : Type} (args : List AV) (H : Hp E) (K : AV → Hp E → Option R) : Option R :=
 match args, H with
 | [(AV.sc (SV.ptr 0 0 0))], [(some (HE.mk false (HB.exp none [(SV.slc 1 none b), (SV.int IntKind.i64 n), (SV.int IntKind.u64 n1), (SV.int IntKind.i64 n2)]))), (some (HE.mk true (HB.rows (B.u8 l))))] => g_spec_l01Src_dma_Wr N b n n1 n2 l (fun s1 n17 n18 b3 n19 n20 n21 => K (AV.tup [(false, [(SV.str s1)]), (false, [(SV.int IntKind.i64 n17)]), (false, [(SV.int IntKind.i64 n18)])]) [(some (HE.mk false (HB.exp none [(SV.slc 1 none b3), (SV.int IntKind.i64 n19), (SV.int IntKind.u64 n20), (SV.int IntKind.i64 n21)]))), (some (HE.mk true (HB.rows (B.u8 l))))])
 | _, _ => none
theorem o_spec_l01Src_dma_Wr_ok (N : Nat) : FnOk E 61 (o_spec_l01Src_dma_Wr N) := by
  intro R args H K r h
  unfold o_spec_l01Src_dma_Wr at h
  dsimp only at h
  split at h
  · exact fnB_ok (ids := []) (top := []) ok (O_spec_l01Src_dma_Wr_ok N) (jn_ok _ _ _) Try.func61 (by kernel_rfl) (IT := noIt) (sl := sl_spec_l01Src_dma_Wr) (J := J_spec_l01Src_dma_Wr) (K := K) (H := [(some (HE.mk false (HB.exp none [(SV.slc 1 none _), (SV.int IntKind.i64 _), (SV.int IntKind.u64 _), (SV.int IntKind.i64 _)]))), (some (HE.mk true (HB.rows (B.u8 _))))]) (noIt_ok) (by kernel_rfl) rfl ((e_spec_l01Src_dma_Wr N _ _ _ _ _ K).trans h)
  · cases h
/-! ### (*loop.example/g00038/spec.l01Src).bytes -/
abbrev sl_spec_l01Src_bytes_Wr : SlotT := [(0, ([0, 1, 5, 6], [5]))]
abbrev J_spec_l01Src_bytes_Wr : JT := jn [] [] []
noncomputable def O_spec_l01Src_bytes_Wr (N : Nat) : Orc E := addFn 27 (o_spec_l01Src_n_Wr N) (noFn)
theorem O_spec_l01Src_bytes_Wr_ok (N : Nat) : OrcOk (O_spec_l01Src_bytes_Wr N) := addFn_ok (o_spec_l01Src_n_Wr_ok N) (noFn_ok)
noncomputable def s_spec_l01Src_bytes_Wr_0 (N : Nat) {R : Type} (n4 : Int) (b2 : Bool) (n8 : Int) (l1 : List Int) (b1 : Bool) (n5 : Int) (n6 : Int) (n7 : Int) (l2 : List Int) (ag : Bool → Int → Int → Int → (List Int) → Option R)  (kN : Bool → Int → Int → (List Int) → Option R) : Option R :=
 (cond (decide ((n5 < n4)))
 (g_spec_l01Src_n_Wr N (256 : Int) b2 n6 n7 n8 l1 fun n9 n10 n11 =>
 (cond (Go.Eng.roomOk ((List.length l2) + (List.length [(IntKind.wrap IntKind.u8 n9)])) 1)
 (ag (cond (Nat.beq (List.length [(IntKind.wrap IntKind.u8 n9)]) 0) b1 false) (IntKind.wrap IntKind.i64 (n5 + (1 : Int))) n10 n11 (l2 ++ [(IntKind.wrap IntKind.u8 n9)]))
 none))
 (kN b1 n6 n7 l2))
noncomputable def l_spec_l01Src_bytes_Wr_0 (N : Nat) {R : Type} (n4 : Int) (b2 : Bool) (n8 : Int) (l1 : List Int) (kN : Bool → Int → Int → (List Int) → Option R) : Nat → Bool → Int → Int → Int → (List Int) → Option R
 | 0, _, _, _, _, _ => none
 | f + 1, b1, n5, n6, n7, l2 => s_spec_l01Src_bytes_Wr_0 N n4 b2 n8 l1 b1 n5 n6 n7 l2 (fun b1 n5 n6 n7 l2 => l_spec_l01Src_bytes_Wr_0 N n4 b2 n8 l1 kN f b1 n5 n6 n7 l2)  kN
noncomputable def c_spec_l01Src_bytes_Wr_0 (N : Nat) {R : Type} (n4 : Int) (b2 : Bool) (n8 : Int) (l1 : List Int) (b1 : Bool) (n5 : Int) (n6 : Int) (n7 : Int) (l2 : List Int) (kN : Bool → Int → Int → (List Int) → Option R) : Option R := l_spec_l01Src_bytes_Wr_0 N n4 b2 n8 l1 kN N b1 n5 n6 n7 l2
theorem se_spec_l01Src_bytes_Wr_0 (N : Nat) {R : Type} (n4 : Int) (b2 : Bool) (n8 : Int) (l1 : List Int) (b1 : Bool) (n5 : Int) (n6 : Int) (n7 : Int) (l2 : List Int) (AG : List (Option AV) → Hp E → Option R) (KL : Ex → List (Option AV) → Hp E → Option R) :
    iterStep (E := E) (O_spec_l01Src_bytes_Wr N) (fun {R} => LI (noIt) 2 21 sl_spec_l01Src_bytes_Wr (R := R)) J_spec_l01Src_bytes_Wr 2 21 0 [0, 1, 5, 6] [5] (body Try.f62 0) AG KL [(some (AV.sc (SV.ptr 0 0 0))), (some (AV.sc (SV.int IntKind.i64 n4))), (some (AV.sc (SV.slc 2 none b1))), (some (AV.sc (SV.int IntKind.i64 n5)))] [(some (HE.mk false (HB.exp none [(SV.slc 1 none b2), (SV.int IntKind.i64 n6), (SV.int IntKind.u64 n7), (SV.int IntKind.i64 n8)]))), (some (HE.mk true (HB.rows (B.u8 l1)))), (some (HE.mk false (HB.rows (B.u8 l2))))] =
      s_spec_l01Src_bytes_Wr_0 N n4 b2 n8 l1 b1 n5 n6 n7 l2 (fun b1 n5 n6 n7 l2 => AG [(some (AV.sc (SV.ptr 0 0 0))), (some (AV.sc (SV.int IntKind.i64 n4))), (some (AV.sc (SV.slc 2 none b1))), (some (AV.sc (SV.int IntKind.i64 n5)))] [(some (HE.mk false (HB.exp none [(SV.slc 1 none b2), (SV.int IntKind.i64 n6), (SV.int IntKind.u64 n7), (SV.int IntKind.i64 n8)]))), (some (HE.mk true (HB.rows (B.u8 l1)))), (some (HE.mk false (HB.rows (B.u8 l2))))])  (fun b4 n16 n17 l4 => KL Ex.normal [(some (AV.sc (SV.slc 2 none b4)))] [(some (HE.mk false (HB.exp none [(SV.slc 1 none b2), (SV.int IntKind.i64 n16), (SV.int IntKind.u64 n17), (SV.int IntKind.i64 n8)]))), (some (HE.mk true (HB.rows (B.u8 l1)))), (some (HE.mk false (HB.rows (B.u8 l4))))]) := by kernel_rfl
theorem le_spec_l01Src_bytes_Wr_0 (N : Nat) {R : Type} (n4 : Int) (b2 : Bool) (n8 : Int) (l1 : List Int) (KL : Ex → List (Option AV) → Hp E → Option R) : ∀ (f : Nat), ∀ (b1 : Bool) (n5 : Int) (n6 : Int) (n7 : Int) (l2 : List Int), iterK (E := E) (O_spec_l01Src_bytes_Wr N) (fun {R} => LI (noIt) 2 21 sl_spec_l01Src_bytes_Wr (R := R)) J_spec_l01Src_bytes_Wr 2 21 0 [0, 1, 5, 6] [5] (body Try.f62 0) f [(some (AV.sc (SV.ptr 0 0 0))), (some (AV.sc (SV.int IntKind.i64 n4))), (some (AV.sc (SV.slc 2 none b1))), (some (AV.sc (SV.int IntKind.i64 n5)))] [(some (HE.mk false (HB.exp none [(SV.slc 1 none b2), (SV.int IntKind.i64 n6), (SV.int IntKind.u64 n7), (SV.int IntKind.i64 n8)]))), (some (HE.mk true (HB.rows (B.u8 l1)))), (some (HE.mk false (HB.rows (B.u8 l2))))] KL = l_spec_l01Src_bytes_Wr_0 N n4 b2 n8 l1 (fun b4 n16 n17 l4 => KL Ex.normal [(some (AV.sc (SV.slc 2 none b4)))] [(some (HE.mk false (HB.exp none [(SV.slc 1 none b2), (SV.int IntKind.i64 n16), (SV.int IntKind.u64 n17), (SV.int IntKind.i64 n8)]))), (some (HE.mk true (HB.rows (B.u8 l1)))), (some (HE.mk false (HB.rows (B.u8 l4))))]) f b1 n5 n6 n7 l2 := by
  intro f
  induction f with
  | zero => intros; rfl
  | succ f ih =>
    intro b1 n5 n6 n7 l2
    rw [iterK_succ, se_spec_l01Src_bytes_Wr_0]
    exact (congrArg (fun z0 => s_spec_l01Src_bytes_Wr_0 N n4 b2 n8 l1 b1 n5 n6 n7 l2 z0 (fun b4 n16 n17 l4 => KL Ex.normal [(some (AV.sc (SV.slc 2 none b4)))] [(some (HE.mk false (HB.exp none [(SV.slc 1 none b2), (SV.int IntKind.i64 n16), (SV.int IntKind.u64 n17), (SV.int IntKind.i64 n8)]))), (some (HE.mk true (HB.rows (B.u8 l1)))), (some (HE.mk false (HB.rows (B.u8 l4))))])) (funext fun b1 => funext fun n5 => funext fun n6 => funext fun n7 => funext fun l2 => ih b1 n5 n6 n7 l2))
noncomputable def i_spec_l01Src_bytes_Wr_0 (N : Nat) {R : Type} (vs : List (Option AV)) (H : Hp E) (KL : Ex → List (Option AV) → Hp E → Option R) : Option R :=
 match vs, H with
 | [(some (AV.sc (SV.ptr 0 0 0))), (some (AV.sc (SV.int IntKind.i64 n4))), (some (AV.sc (SV.slc 2 none b1))), (some (AV.sc (SV.int IntKind.i64 n5)))], [(some (HE.mk false (HB.exp none [(SV.slc 1 none b2), (SV.int IntKind.i64 n6), (SV.int IntKind.u64 n7), (SV.int IntKind.i64 n8)]))), (some (HE.mk true (HB.rows (B.u8 l1)))), (some (HE.mk false (HB.rows (B.u8 l2))))] => c_spec_l01Src_bytes_Wr_0 N n4 b2 n8 l1 b1 n5 n6 n7 l2 (fun b5 n18 n19 l5 => KL Ex.normal [(some (AV.sc (SV.slc 2 none b5)))] [(some (HE.mk false (HB.exp none [(SV.slc 1 none b2), (SV.int IntKind.i64 n18), (SV.int IntKind.u64 n19), (SV.int IntKind.i64 n8)]))), (some (HE.mk true (HB.rows (B.u8 l1)))), (some (HE.mk false (HB.rows (B.u8 l5))))])
 | _, _ => none
noncomputable def IT_spec_l01Src_bytes_Wr_0 (N : Nat) : Its E := addIt 0 (i_spec_l01Src_bytes_Wr_0 N) (noIt)
theorem IT_spec_l01Src_bytes_Wr_0_ok (N : Nat) : ItOk (IT_spec_l01Src_bytes_Wr_0 N) 2 21 sl_spec_l01Src_bytes_Wr (lsB Try.f62 [0]) :=
  addItB_ok (inner := []) ok (O_spec_l01Src_bytes_Wr_ok N) (jn_ok _ _ _) (noIt_ok) rfl (by kernel_rfl) rfl fun vs H KL r h => by
    unfold i_spec_l01Src_bytes_Wr_0 at h
    split at h
    · exact ⟨_, (le_spec_l01Src_bytes_Wr_0 N _ _ _ _ KL N _ _ _ _ _).trans h⟩
    · cases h
noncomputable def g_spec_l01Src_bytes_Wr (N : Nat) {R : Type} (n : Int) (b : Bool) (n1 : Int) (n2 : Int) (n3 : Int) (l : List Int) (k : ByteArray → Int → Int → Option R) : Option R :=
 (c_spec_l01Src_bytes_Wr_0 N n b n3 l false (0 : Int) n1 n2 [] fun b3 n12 n13 l3 =>
 (cond (Nat.ble (0 + (List.length l3)) (List.length l3))
 (k (Go.Eng.toBytes (Go.Eng.seg l3 0 (List.length l3))) n12 n13)
 none))
theorem e_spec_l01Src_bytes_Wr (N : Nat) {R : Type} (n : Int) (b : Bool) (n1 : Int) (n2 : Int) (n3 : Int) (l : List Int) (K : AV → Hp E → Option R) :
    runFnI (E := E) (O_spec_l01Src_bytes_Wr N) (IT_spec_l01Src_bytes_Wr_0 N) sl_spec_l01Src_bytes_Wr J_spec_l01Src_bytes_Wr Try.f62 [(AV.sc (SV.ptr 0 0 0)), (AV.sc (SV.int IntKind.i64 n))] [(some (HE.mk false (HB.exp none [(SV.slc 1 none b), (SV.int IntKind.i64 n1), (SV.int IntKind.u64 n2), (SV.int IntKind.i64 n3)]))), (some (HE.mk true (HB.rows (B.u8 l))))] K =
      g_spec_l01Src_bytes_Wr N n b n1 n2 n3 l (fun s n14 n15 => K (AV.sc (SV.str s)) [(some (HE.mk false (HB.exp none [(SV.slc 1 none b), (SV.int IntKind.i64 n14), (SV.int IntKind.u64 n15), (SV.int IntKind.i64 n3)]))), (some (HE.mk true (HB.rows (B.u8 l))))]) := by kernel_rfl
noncomputable def o_spec_l01Src_bytes_Wr (N : Nat) {R : Type} (args : List AV) (H : Hp E) (K : AV → Hp E → Option R) : Option R :=
 match args, H with
 | [(AV.sc (SV.ptr 0 0 0)), (AV.sc (SV.int IntKind.i64 n))], [(some (HE.mk false (HB.exp none [(SV.slc 1 none b), (SV.int IntKind.i64 n1), (SV.int IntKind.u64 n2), (SV.int IntKind.i64 n3)]))), (some (HE.mk true (HB.rows (B.u8 l))))] => g_spec_l01Src_bytes_Wr N n b n1 n2 n3 l (fun s n14 n15 => K (AV.sc (SV.str s)) [(some (HE.mk false (HB.exp none [(SV.slc 1 none b), (SV.int IntKind.i64 n14), (SV.int IntKind.u64 n15), (SV.int IntKind.i64 n3)]))), (some (HE.mk true (HB.rows (B.u8 l))))])
 | _, _ => none
theorem o_spec_l01Src_bytes_Wr_ok (N : Nat) : FnOk E 62 (o_spec_l01Src_bytes_Wr N) := by
  intro R args H K r h
  unfold o_spec_l01Src_bytes_Wr at h
  dsimp only at h
  split at h
  · exact fnB_ok (ids := [0]) (top := [0]) ok (O_spec_l01Src_bytes_Wr_ok N) (jn_ok _ _ _) Try.func62 (by kernel_rfl) (IT := IT_spec_l01Src_bytes_Wr_0 N) (sl := sl_spec_l01Src_bytes_Wr) (J := J_spec_l01Src_bytes_Wr) (K := K) (H := [(some (HE.mk false (HB.exp none [(SV.slc 1 none _), (SV.int IntKind.i64 _), (SV.int IntKind.u64 _), (SV.int IntKind.i64 _)]))), (some (HE.mk true (HB.rows (B.u8 _))))]) (IT_spec_l01Src_bytes_Wr_0_ok N) (by kernel_rfl) rfl ((e_spec_l01Src_bytes_Wr N _ _ _ _ _ _ K).trans h)
  · cases h
/-! ### loop.example/g00038/spec.DrawDmaWrite -/
abbrev sl_spec_DrawDmaWrite_r : SlotT := []
abbrev J_spec_DrawDmaWrite_r : JT := jn [] [] []
noncomputable def O_spec_DrawDmaWrite_r (N : Nat) : Orc E := addFn 62 (o_spec_l01Src_bytes_Wr N) (addFn 27 (o_spec_l01Src_n_Wr N) (addFn 61 (o_spec_l01Src_dma_Wr N) (addFn 25 (o_spec_l01Source_r N) (noFn))))
noncomputable def pa_spec_DrawDmaWrite_r__o_spec_l01Src_bytes_Wr (N : Nat) (G_spec_l01Src_bytes_Wr : ∀ {R : Type} (n : Int) (b : Bool) (n1 : Int) (n2 : Int) (n3 : Int) (l : List Int) (k : ByteArray → Int → Int → Option R), Option R) {R : Type} (args : List AV) (H : Hp E) (K : AV → Hp E → Option R) : Option R :=
 match args, H with
 | [(AV.sc (SV.ptr 0 0 0)), (AV.sc (SV.int IntKind.i64 n))], [(some (HE.mk false (HB.exp none [(SV.slc 1 none b), (SV.int IntKind.i64 n1), (SV.int IntKind.u64 n2), (SV.int IntKind.i64 n3)]))), (some (HE.mk true (HB.rows (B.u8 l))))] => G_spec_l01Src_bytes_Wr n b n1 n2 n3 l (fun s n14 n15 => K (AV.sc (SV.str s)) [(some (HE.mk false (HB.exp none [(SV.slc 1 none b), (SV.int IntKind.i64 n14), (SV.int IntKind.u64 n15), (SV.int IntKind.i64 n3)]))), (some (HE.mk true (HB.rows (B.u8 l))))])
 | _, _ => none
noncomputable def pa_spec_DrawDmaWrite_r__o_spec_l01Src_n_Wr (N : Nat) (G_spec_l01Src_n_Wr : ∀ {R : Type} (n : Int) (b : Bool) (n1 : Int) (n2 : Int) (n3 : Int) (l : List Int) (k : Int → Int → Int → Option R), Option R) {R : Type} (args : List AV) (H : Hp E) (K : AV → Hp E → Option R) : Option R :=
 match args, H with
 | [(AV.sc (SV.ptr 0 0 0)), (AV.sc (SV.int IntKind.i64 n))], [(some (HE.mk false (HB.exp none [(SV.slc 1 none b), (SV.int IntKind.i64 n1), (SV.int IntKind.u64 n2), (SV.int IntKind.i64 n3)]))), (some (HE.mk true (HB.rows (B.u8 l))))] => G_spec_l01Src_n_Wr n b n1 n2 n3 l (fun n4 n5 n6 => K (AV.sc (SV.int IntKind.i64 n4)) [(some (HE.mk false (HB.exp none [(SV.slc 1 none b), (SV.int IntKind.i64 n5), (SV.int IntKind.u64 n6), (SV.int IntKind.i64 n3)]))), (some (HE.mk true (HB.rows (B.u8 l))))])
 | _, _ => none
noncomputable def pa_spec_DrawDmaWrite_r__o_spec_l01Src_dma_Wr (N : Nat) (G_spec_l01Src_dma_Wr : ∀ {R : Type} (b : Bool) (n : Int) (n1 : Int) (n2 : Int) (l : List Int) (k : ByteArray → Int → Int → Bool → Int → Int → Int → Option R), Option R) {R : Type} (args : List AV) (H : Hp E) (K : AV → Hp E → Option R) : Option R :=
 match args, H with
 | [(AV.sc (SV.ptr 0 0 0))], [(some (HE.mk false (HB.exp none [(SV.slc 1 none b), (SV.int IntKind.i64 n), (SV.int IntKind.u64 n1), (SV.int IntKind.i64 n2)]))), (some (HE.mk true (HB.rows (B.u8 l))))] => G_spec_l01Src_dma_Wr b n n1 n2 l (fun s1 n17 n18 b3 n19 n20 n21 => K (AV.tup [(false, [(SV.str s1)]), (false, [(SV.int IntKind.i64 n17)]), (false, [(SV.int IntKind.i64 n18)])]) [(some (HE.mk false (HB.exp none [(SV.slc 1 none b3), (SV.int IntKind.i64 n19), (SV.int IntKind.u64 n20), (SV.int IntKind.i64 n21)]))), (some (HE.mk true (HB.rows (B.u8 l))))])
 | _, _ => none
noncomputable def pa_spec_DrawDmaWrite_r__o_spec_l01Source_r (N : Nat) (G_spec_l01Source_r : ∀ {R : Type} (b : Bool) (l : List Int) (k : Int → Int → Option R), Option R) {R : Type} (args : List AV) (H : Hp E) (K : AV → Hp E → Option R) : Option R :=
 match args, H with
 | [(AV.sc (SV.slc 0 none b))], [(some (HE.mk true (HB.rows (B.u8 l))))] => G_spec_l01Source_r b l (fun n5 n6 => K (AV.sc (SV.ptr 1 0 0)) [(some (HE.mk true (HB.rows (B.u8 l)))), (some (HE.mk false (HB.exp none [(SV.slc 0 none b), (SV.int IntKind.i64 (0 : Int)), (SV.int IntKind.u64 n5), (SV.int IntKind.i64 n6)])))])
 | _, _ => none
noncomputable def OA_spec_DrawDmaWrite_r (N : Nat) (G_spec_l01Src_bytes_Wr : ∀ {R : Type} (n : Int) (b : Bool) (n1 : Int) (n2 : Int) (n3 : Int) (l : List Int) (k : ByteArray → Int → Int → Option R), Option R) (G_spec_l01Src_n_Wr : ∀ {R : Type} (n : Int) (b : Bool) (n1 : Int) (n2 : Int) (n3 : Int) (l : List Int) (k : Int → Int → Int → Option R), Option R) (G_spec_l01Src_dma_Wr : ∀ {R : Type} (b : Bool) (n : Int) (n1 : Int) (n2 : Int) (l : List Int) (k : ByteArray → Int → Int → Bool → Int → Int → Int → Option R), Option R) (G_spec_l01Source_r : ∀ {R : Type} (b : Bool) (l : List Int) (k : Int → Int → Option R), Option R) : Orc E := addFn 62 (pa_spec_DrawDmaWrite_r__o_spec_l01Src_bytes_Wr N G_spec_l01Src_bytes_Wr) (addFn 27 (pa_spec_DrawDmaWrite_r__o_spec_l01Src_n_Wr N G_spec_l01Src_n_Wr) (addFn 61 (pa_spec_DrawDmaWrite_r__o_spec_l01Src_dma_Wr N G_spec_l01Src_dma_Wr) (addFn 25 (pa_spec_DrawDmaWrite_r__o_spec_l01Source_r N G_spec_l01Source_r) (noFn))))
theorem O_spec_DrawDmaWrite_r_ok (N : Nat) : OrcOk (O_spec_DrawDmaWrite_r N) := addFn_ok (o_spec_l01Src_bytes_Wr_ok N) (addFn_ok (o_spec_l01Src_n_Wr_ok N) (addFn_ok (o_spec_l01Src_dma_Wr_ok N) (addFn_ok (o_spec_l01Source_r_ok N) (noFn_ok))))
noncomputable def g_spec_DrawDmaWrite_r (N : Nat) {R : Type} (b : Bool) (l : List Int) (k : ByteArray → Int → Int → ByteArray → Option R) : Option R :=
 (g_spec_l01Source_r N b l fun n n1 =>
 (g_spec_l01Src_dma_Wr N b (0 : Int) n n1 l fun s n2 n3 b1 n4 n5 n6 =>
 (g_spec_l01Src_n_Wr N (20 : Int) b1 n4 n5 n6 l fun n7 n8 n9 =>
 (g_spec_l01Src_bytes_Wr N n7 b1 n8 n9 n6 l fun s1 n10 n11 =>
 (k s n2 n3 s1)))))
noncomputable def ga_g_spec_DrawDmaWrite_r (N : Nat) (G_spec_l01Src_bytes_Wr : ∀ {R : Type} (n : Int) (b : Bool) (n1 : Int) (n2 : Int) (n3 : Int) (l : List Int) (k : ByteArray → Int → Int → Option R), Option R) (G_spec_l01Src_n_Wr : ∀ {R : Type} (n : Int) (b : Bool) (n1 : Int) (n2 : Int) (n3 : Int) (l : List Int) (k : Int → Int → Int → Option R), Option R) (G_spec_l01Src_dma_Wr : ∀ {R : Type} (b : Bool) (n : Int) (n1 : Int) (n2 : Int) (l : List Int) (k : ByteArray → Int → Int → Bool → Int → Int → Int → Option R), Option R) (G_spec_l01Source_r : ∀ {R : Type} (b : Bool) (l : List Int) (k : Int → Int → Option R), Option R) {R : Type} (b : Bool) (l : List Int) (k : ByteArray → Int → Int → ByteArray → Option R) : Option R :=
 (G_spec_l01Source_r b l fun n n1 =>
 (G_spec_l01Src_dma_Wr b (0 : Int) n n1 l fun s n2 n3 b1 n4 n5 n6 =>
 (G_spec_l01Src_n_Wr (20 : Int) b1 n4 n5 n6 l fun n7 n8 n9 =>
 (G_spec_l01Src_bytes_Wr n7 b1 n8 n9 n6 l fun s1 n10 n11 =>
 (k s n2 n3 s1)))))
theorem ea_e_spec_DrawDmaWrite_r (N : Nat) (G_spec_l01Src_bytes_Wr : ∀ {R : Type} (n : Int) (b : Bool) (n1 : Int) (n2 : Int) (n3 : Int) (l : List Int) (k : ByteArray → Int → Int → Option R), Option R) (G_spec_l01Src_n_Wr : ∀ {R : Type} (n : Int) (b : Bool) (n1 : Int) (n2 : Int) (n3 : Int) (l : List Int) (k : Int → Int → Int → Option R), Option R) (G_spec_l01Src_dma_Wr : ∀ {R : Type} (b : Bool) (n : Int) (n1 : Int) (n2 : Int) (l : List Int) (k : ByteArray → Int → Int → Bool → Int → Int → Int → Option R), Option R) (G_spec_l01Source_r : ∀ {R : Type} (b : Bool) (l : List Int) (k : Int → Int → Option R), Option R) {R : Type} (b : Bool) (l : List Int) (K : AV → Hp E → Option R) :
    runFnI (E := E) (OA_spec_DrawDmaWrite_r N G_spec_l01Src_bytes_Wr G_spec_l01Src_n_Wr G_spec_l01Src_dma_Wr G_spec_l01Source_r) (noIt) sl_spec_DrawDmaWrite_r J_spec_DrawDmaWrite_r Try.f18 [(AV.sc (SV.slc 0 none b))] [(some (HE.mk true (HB.rows (B.u8 l))))] K =
      ga_g_spec_DrawDmaWrite_r N G_spec_l01Src_bytes_Wr G_spec_l01Src_n_Wr G_spec_l01Src_dma_Wr G_spec_l01Source_r b l (fun s2 n12 n13 s3 => K (AV.tup [(false, [(SV.str s2)]), (false, [(SV.int IntKind.i64 n12)]), (false, [(SV.int IntKind.i64 n13)]), (false, [(SV.str s3)])]) [(some (HE.mk true (HB.rows (B.u8 l))))]) := by kernel_rfl
theorem e_spec_DrawDmaWrite_r (N : Nat) {R : Type} (b : Bool) (l : List Int) (K : AV → Hp E → Option R) :
    runFnI (E := E) (O_spec_DrawDmaWrite_r N) (noIt) sl_spec_DrawDmaWrite_r J_spec_DrawDmaWrite_r Try.f18 [(AV.sc (SV.slc 0 none b))] [(some (HE.mk true (HB.rows (B.u8 l))))] K =
      g_spec_DrawDmaWrite_r N b l (fun s2 n12 n13 s3 => K (AV.tup [(false, [(SV.str s2)]), (false, [(SV.int IntKind.i64 n12)]), (false, [(SV.int IntKind.i64 n13)]), (false, [(SV.str s3)])]) [(some (HE.mk true (HB.rows (B.u8 l))))]) := castPr (by kernel_rfl) (ea_e_spec_DrawDmaWrite_r N (g_spec_l01Src_bytes_Wr N) (g_spec_l01Src_n_Wr N) (g_spec_l01Src_dma_Wr N) (g_spec_l01Source_r N) b l K)
noncomputable def o_spec_DrawDmaWrite_r (N : Nat) {R : Type} (args : List AV) (H : Hp E) (K : AV → Hp E → Option R) : Option R :=
 match args, H with
 | [(AV.sc (SV.slc 0 none b))], [(some (HE.mk true (HB.rows (B.u8 l))))] => g_spec_DrawDmaWrite_r N b l (fun s2 n12 n13 s3 => K (AV.tup [(false, [(SV.str s2)]), (false, [(SV.int IntKind.i64 n12)]), (false, [(SV.int IntKind.i64 n13)]), (false, [(SV.str s3)])]) [(some (HE.mk true (HB.rows (B.u8 l))))])
 | _, _ => none
theorem o_spec_DrawDmaWrite_r_ok (N : Nat) : FnOk E 18 (o_spec_DrawDmaWrite_r N) := by
  intro R args H K r h
  unfold o_spec_DrawDmaWrite_r at h
  dsimp only at h
  split at h
  · exact fnB_ok (ids := []) (top := []) ok (O_spec_DrawDmaWrite_r_ok N) (jn_ok _ _ _) Try.func18 (by kernel_rfl) (IT := noIt) (sl := sl_spec_DrawDmaWrite_r) (J := J_spec_DrawDmaWrite_r) (K := K) (H := [(some (HE.mk true (HB.rows (B.u8 _))))]) (noIt_ok) (by kernel_rfl) rfl ((e_spec_DrawDmaWrite_r N _ _ K).trans h)
  · cases h
/-! ### loop.example/g00038/spec.l01Min -/
abbrev sl_spec_l01Min : SlotT := []
abbrev J_spec_l01Min : JT := jn [] [] []
noncomputable def O_spec_l01Min (N : Nat) : Orc E := noFn
theorem O_spec_l01Min_ok (N : Nat) : OrcOk (O_spec_l01Min N) := noFn_ok
noncomputable def g_spec_l01Min (N : Nat) {R : Type} (n : Int) (n1 : Int) (k : Int → Option R) : Option R :=
 (cond (decide ((n < n1)))
 (k n)
 (k n1))
theorem e_spec_l01Min (N : Nat) {R : Type} (n : Int) (n1 : Int) (K : AV → Hp E → Option R) :
    runFnI (E := E) (O_spec_l01Min N) (noIt) sl_spec_l01Min J_spec_l01Min Try.f69 [(AV.sc (SV.int IntKind.i64 n)), (AV.sc (SV.int IntKind.i64 n1))] [] K =
      g_spec_l01Min N n n1 (fun n2 => K (AV.sc (SV.int IntKind.i64 n2)) []) := by kernel_rfl
noncomputable def o_spec_l01Min (N : Nat) {R : Type} (args : List AV) (H : Hp E) (K : AV → Hp E → Option R) : Option R :=
 match args, H with
 | [(AV.sc (SV.int IntKind.i64 n)), (AV.sc (SV.int IntKind.i64 n1))], [] => g_spec_l01Min N n n1 (fun n2 => K (AV.sc (SV.int IntKind.i64 n2)) [])
 | _, _ => none
theorem o_spec_l01Min_ok (N : Nat) : FnOk E 69 (o_spec_l01Min N) := by
  intro R args H K r h
  unfold o_spec_l01Min at h
  dsimp only at h
  split at h
  · exact fnB_ok (ids := []) (top := []) ok (O_spec_l01Min_ok N) (jn_ok _ _ _) Try.func69 (by kernel_rfl) (IT := noIt) (sl := sl_spec_l01Min) (J := J_spec_l01Min) (K := K) (H := []) (noIt_ok) (by kernel_rfl) rfl ((e_spec_l01Min N _ _ K).trans h)
  · cases h
/-! ### loop.example/g00038/spec.l03Acc -/
abbrev sl_spec_l03Acc : SlotT := []
abbrev J_spec_l03Acc : JT := jn [(1, [(2, .b)])] [] []
noncomputable def O_spec_l03Acc (N : Nat) : Orc E := noFn
theorem O_spec_l03Acc_ok (N : Nat) : OrcOk (O_spec_l03Acc N) := noFn_ok
noncomputable def g_spec_l03Acc (N : Nat) {R : Type} (n : Int) (k : Bool → Option R) : Option R :=
 (oK (cond (n == (1 : Int))
 (some true)
 (cond (n == (2 : Int))
 (some true)
 (some (n == (3 : Int))))) fun j =>
 (k j))
theorem e_spec_l03Acc (N : Nat) {R : Type} (n : Int) (K : AV → Hp E → Option R) :
    runFnI (E := E) (O_spec_l03Acc N) (noIt) sl_spec_l03Acc J_spec_l03Acc Try.f35 [(AV.sc (SV.int IntKind.i64 n))] [] K =
      g_spec_l03Acc N n (fun b => K (AV.sc (SV.bool b)) []) := by kernel_rfl
noncomputable def o_spec_l03Acc (N : Nat) {R : Type} (args : List AV) (H : Hp E) (K : AV → Hp E → Option R) : Option R :=
 match args, H with
 | [(AV.sc (SV.int IntKind.i64 n))], [] => g_spec_l03Acc N n (fun b => K (AV.sc (SV.bool b)) [])
 | _, _ => none
theorem o_spec_l03Acc_ok (N : Nat) : FnOk E 35 (o_spec_l03Acc N) := by
  intro R args H K r h
  unfold o_spec_l03Acc at h
  dsimp only at h
  split at h
  · exact fnB_ok (ids := []) (top := []) ok (O_spec_l03Acc_ok N) (jn_ok _ _ _) Try.func35 (by kernel_rfl) (IT := noIt) (sl := sl_spec_l03Acc) (J := J_spec_l03Acc) (K := K) (H := []) (noIt_ok) (by kernel_rfl) rfl ((e_spec_l03Acc N _ K).trans h)
  · cases h
/-! ### loop.example/g00038/spec.l03May -/
abbrev sl_spec_l03May : SlotT := []
abbrev J_spec_l03May : JT := jn [(11, [(6, .b)])] [(9, [(7, .i .i64)]), (11, [(7, .i .i64)])] []
noncomputable def O_spec_l03May (N : Nat) : Orc E := noFn
theorem O_spec_l03May_ok (N : Nat) : OrcOk (O_spec_l03May N) := noFn_ok
noncomputable def g_spec_l03May (N : Nat) {R : Type} (n : Int) (n1 : Int) (b : Bool) (k : Bool → Option R) : Option R :=
 (oK (cond (n1 == (2 : Int))
 (some (4 : Int))
 (oK (cond (n1 == (3 : Int))
 (some (8 : Int))
 (some (2 : Int))) fun j =>
 (some j))) fun j1 =>
 (cond ((IntKind.wrap IntKind.i64 (((BitVec.toNat ((BitVec.ofInt 64 n) &&& (BitVec.ofInt 64 j1))) : Nat) : Int)) == (0 : Int))
 (k false)
 (cond b
 (k ((IntKind.wrap IntKind.i64 (((BitVec.toNat ((BitVec.ofInt 64 n) &&& (BitVec.ofInt 64 (16 : Int)))) : Nat) : Int)) != (0 : Int)))
 (oK (cond (n1 != (3 : Int))
 (some true)
 (some ((IntKind.wrap IntKind.i64 (((BitVec.toNat ((BitVec.ofInt 64 n) &&& (BitVec.ofInt 64 (16 : Int)))) : Nat) : Int)) == (0 : Int)))) fun j2 =>
 (k j2)))))
theorem e_spec_l03May (N : Nat) {R : Type} (n : Int) (n1 : Int) (b : Bool) (K : AV → Hp E → Option R) :
    runFnI (E := E) (O_spec_l03May N) (noIt) sl_spec_l03May J_spec_l03May Try.f37 [(AV.sc (SV.int IntKind.i64 n)), (AV.sc (SV.int IntKind.i64 n1)), (AV.sc (SV.bool b))] [] K =
      g_spec_l03May N n n1 b (fun b1 => K (AV.sc (SV.bool b1)) []) := by kernel_rfl
noncomputable def o_spec_l03May (N : Nat) {R : Type} (args : List AV) (H : Hp E) (K : AV → Hp E → Option R) : Option R :=
 match args, H with
 | [(AV.sc (SV.int IntKind.i64 n)), (AV.sc (SV.int IntKind.i64 n1)), (AV.sc (SV.bool b))], [] => g_spec_l03May N n n1 b (fun b1 => K (AV.sc (SV.bool b1)) [])
 | _, _ => none
theorem o_spec_l03May_ok (N : Nat) : FnOk E 37 (o_spec_l03May N) := by
  intro R args H K r h
  unfold o_spec_l03May at h
  dsimp only at h
  split at h
  · exact fnB_ok (ids := []) (top := []) ok (O_spec_l03May_ok N) (jn_ok _ _ _) Try.func37 (by kernel_rfl) (IT := noIt) (sl := sl_spec_l03May) (J := J_spec_l03May) (K := K) (H := []) (noIt_ok) (by kernel_rfl) rfl ((e_spec_l03May N _ _ _ K).trans h)
  · cases h
/-! ### loop.example/g00038/spec.Walk -/
abbrev sl_spec_Walk : SlotT := []
abbrev J_spec_Walk : JT := jn [(1, [(41, .b)]), (11, [(74, .b)]), (21, [(127, .b)])] [(130, [(17, .i .i64)]), (147, [(13, .i .i64)])] []
noncomputable def O_spec_Walk (N : Nat) : Orc E := addFn 38 (o_spec_SetWord N) (addFn 37 (o_spec_l03May N) (addFn 36 (o_spec_l03Entry N) (addFn 35 (o_spec_l03Acc N) (addFn 10 (o_spec_MemFault N) (noFn)))))
noncomputable def pa_spec_Walk__o_spec_SetWord (N : Nat) (G_spec_SetWord : ∀ {R : Type} (s : ByteArray) (n : Int) (n1 : Int) (k : ByteArray → Option R), Option R) {R : Type} (args : List AV) (H : Hp E) (K : AV → Hp E → Option R) : Option R :=
 match args, H with
 | [(AV.sc (SV.str s)), (AV.sc (SV.int IntKind.i64 n)), (AV.sc (SV.int IntKind.i64 n1))], [] => G_spec_SetWord s n n1 (fun s2 => K (AV.sc (SV.str s2)) [])
 | _, _ => none
noncomputable def pa_spec_Walk__o_spec_l03May (N : Nat) (G_spec_l03May : ∀ {R : Type} (n : Int) (n1 : Int) (b : Bool) (k : Bool → Option R), Option R) {R : Type} (args : List AV) (H : Hp E) (K : AV → Hp E → Option R) : Option R :=
 match args, H with
 | [(AV.sc (SV.int IntKind.i64 n)), (AV.sc (SV.int IntKind.i64 n1)), (AV.sc (SV.bool b))], [] => G_spec_l03May n n1 b (fun b1 => K (AV.sc (SV.bool b1)) [])
 | _, _ => none
noncomputable def pa_spec_Walk__o_spec_l03Entry (N : Nat) (G_spec_l03Entry : ∀ {R : Type} (s : ByteArray) (n : Int) (n1 : Int) (k : Int → Bool → Option R), Option R) {R : Type} (args : List AV) (H : Hp E) (K : AV → Hp E → Option R) : Option R :=
 match args, H with
 | [(AV.sc (SV.str s)), (AV.sc (SV.int IntKind.i64 n)), (AV.sc (SV.int IntKind.i64 n1))], [] => G_spec_l03Entry s n n1 (fun n3 b => K (AV.tup [(false, [(SV.int IntKind.i64 n3)]), (false, [(SV.bool b)])]) [])
 | _, _ => none
noncomputable def pa_spec_Walk__o_spec_l03Acc (N : Nat) (G_spec_l03Acc : ∀ {R : Type} (n : Int) (k : Bool → Option R), Option R) {R : Type} (args : List AV) (H : Hp E) (K : AV → Hp E → Option R) : Option R :=
 match args, H with
 | [(AV.sc (SV.int IntKind.i64 n))], [] => G_spec_l03Acc n (fun b => K (AV.sc (SV.bool b)) [])
 | _, _ => none
noncomputable def pa_spec_Walk__o_spec_MemFault (N : Nat) (G_spec_MemFault : ∀ {R : Type} (s : ByteArray) (k : Int → Option R), Option R) {R : Type} (args : List AV) (H : Hp E) (K : AV → Hp E → Option R) : Option R :=
 match args, H with
 | [(AV.sc (SV.str s))], [] => G_spec_MemFault s (fun n => K (AV.sc (SV.int IntKind.i64 n)) [])
 | _, _ => none
noncomputable def OA_spec_Walk (N : Nat) (G_spec_SetWord : ∀ {R : Type} (s : ByteArray) (n : Int) (n1 : Int) (k : ByteArray → Option R), Option R) (G_spec_l03May : ∀ {R : Type} (n : Int) (n1 : Int) (b : Bool) (k : Bool → Option R), Option R) (G_spec_l03Entry : ∀ {R : Type} (s : ByteArray) (n : Int) (n1 : Int) (k : Int → Bool → Option R), Option R) (G_spec_l03Acc : ∀ {R : Type} (n : Int) (k : Bool → Option R), Option R) (G_spec_MemFault : ∀ {R : Type} (s : ByteArray) (k : Int → Option R), Option R) : Orc E := addFn 38 (pa_spec_Walk__o_spec_SetWord N G_spec_SetWord) (addFn 37 (pa_spec_Walk__o_spec_l03May N G_spec_l03May) (addFn 36 (pa_spec_Walk__o_spec_l03Entry N G_spec_l03Entry) (addFn 35 (pa_spec_Walk__o_spec_l03Acc N G_spec_l03Acc) (addFn 10 (pa_spec_Walk__o_spec_MemFault N G_spec_MemFault) (noFn)))))
theorem O_spec_Walk_ok (N : Nat) : OrcOk (O_spec_Walk N) := addFn_ok (o_spec_SetWord_ok N) (addFn_ok (o_spec_l03May_ok N) (addFn_ok (o_spec_l03Entry_ok N) (addFn_ok (o_spec_l03Acc_ok N) (addFn_ok (o_spec_MemFault_ok N) (noFn_ok)))))
noncomputable def g_spec_Walk (N : Nat) {R : Type} (s : ByteArray) (n : Int) (n1 : Int) (n2 : Int) (b : Bool) (k : Int → Int → Int → Bool → Bool → ByteArray → (List Int) → Option R) : Option R :=
 (oK (g_spec_MemFault N s fun n3 =>
 (cond (n3 != (0 : Int))
 (some true)
 (cond (decide ((n < (0 : Int))))
 (some true)
 (cond (decide ((n > (255 : Int))))
 (some true)
 (cond (decide ((n1 < (0 : Int))))
 (some true)
 (cond (decide ((n1 ≥ (262144 : Int))))
 (some true)
 (g_spec_l03Acc N n2 fun b1 =>
 (some (!b1))))))))) fun j =>
 (cond j
 (k (0 : Int) (0 : Int) (0 : Int) false true (ByteArray.mk (List.toArray [])) [])
 (g_spec_l03Entry N s n (Int.fdiv n1 (8192 : Int)) fun n4 b2 =>
 (cond (!b2)
 (k (2 : Int) (0 : Int) (0 : Int) false false s [])
 (oK (cond ((IntKind.wrap IntKind.i64 (((BitVec.toNat ((BitVec.ofInt 64 n4) &&& (BitVec.ofInt 64 (1 : Int)))) : Nat) : Int)) != (0 : Int))
 (some ((IntKind.wrap IntKind.i64 (((BitVec.toNat ((BitVec.ofInt 64 n4) &&& (BitVec.ofInt 64 (14 : Int)))) : Nat) : Int)) == (0 : Int)))
 (some false)) fun j1 =>
 (cond j1
 (g_spec_l03Entry N s (Int.fdiv n4 (256 : Int)) (Int.tmod (Int.fdiv n1 (256 : Int)) (32 : Int)) fun n5 b3 =>
 (cond (!b3)
 (k (2 : Int) (0 : Int) (0 : Int) false false s [n])
 (oK (cond ((IntKind.wrap IntKind.i64 (((BitVec.toNat ((BitVec.ofInt 64 n5) &&& (BitVec.ofInt 64 (1 : Int)))) : Nat) : Int)) == (0 : Int))
 (some true)
 (cond ((IntKind.wrap IntKind.i64 (((BitVec.toNat ((BitVec.ofInt 64 n5) &&& (BitVec.ofInt 64 (14 : Int)))) : Nat) : Int)) == (0 : Int))
 (some true)
 (g_spec_l03May N n5 n2 b fun b4 =>
 (some (!b4))))) fun j2 =>
 (cond j2
 (k (1 : Int) (0 : Int) (0 : Int) false (cond (Nat.beq (List.length [(Int.fdiv n4 (256 : Int))]) 0) false false) s ([n] ++ [(Int.fdiv n4 (256 : Int))]))
 (oK (some (Int.fdiv n5 (256 : Int))) fun j3 =>
 (cond (decide (((IntKind.wrap IntKind.i64 ((IntKind.wrap IntKind.i64 (j3 + (1 : Int))) * (256 : Int))) > (((ByteArray.size s) : Nat) : Int))))
 (k (2 : Int) (0 : Int) (0 : Int) false (cond (Nat.beq (List.length [(Int.fdiv n4 (256 : Int))]) 0) false false) s ([n] ++ [(Int.fdiv n4 (256 : Int))]))
 (oK (cond (n2 == (2 : Int))
 (some (IntKind.wrap IntKind.i64 (((BitVec.toNat ((BitVec.ofInt 64 (IntKind.wrap IntKind.i64 (((BitVec.toNat ((BitVec.ofInt 64 n5) ||| (BitVec.ofInt 64 (32 : Int)))) : Nat) : Int))) ||| (BitVec.ofInt 64 (64 : Int)))) : Nat) : Int)))
 (some (IntKind.wrap IntKind.i64 (((BitVec.toNat ((BitVec.ofInt 64 n5) ||| (BitVec.ofInt 64 (32 : Int)))) : Nat) : Int)))) fun j4 =>
 (g_spec_SetWord N s (IntKind.wrap IntKind.i64 ((IntKind.wrap IntKind.i64 ((Int.fdiv n4 (256 : Int)) * (256 : Int))) + (IntKind.wrap IntKind.i64 ((4 : Int) * (Int.tmod (Int.fdiv n1 (256 : Int)) (32 : Int)))))) j4 fun s1 =>
 (k (0 : Int) (IntKind.wrap IntKind.i64 ((IntKind.wrap IntKind.i64 (j3 * (256 : Int))) + (Int.tmod n1 (256 : Int)))) j4 false (cond (Nat.beq (List.length [(Int.fdiv n4 (256 : Int))]) 0) false false) s1 ([n] ++ [(Int.fdiv n4 (256 : Int))]))))))))))
 (oK (cond ((IntKind.wrap IntKind.i64 (((BitVec.toNat ((BitVec.ofInt 64 n4) &&& (BitVec.ofInt 64 (1 : Int)))) : Nat) : Int)) == (0 : Int))
 (some true)
 (cond ((IntKind.wrap IntKind.i64 (((BitVec.toNat ((BitVec.ofInt 64 n4) &&& (BitVec.ofInt 64 (14 : Int)))) : Nat) : Int)) == (0 : Int))
 (some true)
 (cond ((Int.tmod (Int.fdiv n4 (256 : Int)) (32 : Int)) != (0 : Int))
 (some true)
 (g_spec_l03May N n4 n2 b fun b5 =>
 (some (!b5)))))) fun j5 =>
 (cond j5
 (k (1 : Int) (0 : Int) (0 : Int) false false s [n])
 (oK (some (IntKind.wrap IntKind.i64 ((Int.fdiv n4 (256 : Int)) + (Int.tmod (Int.fdiv n1 (256 : Int)) (32 : Int))))) fun j6 =>
 (cond (decide (((IntKind.wrap IntKind.i64 ((IntKind.wrap IntKind.i64 (j6 + (1 : Int))) * (256 : Int))) > (((ByteArray.size s) : Nat) : Int))))
 (k (2 : Int) (0 : Int) (0 : Int) false false s [n])
 (oK (cond (n2 == (2 : Int))
 (some (IntKind.wrap IntKind.i64 (((BitVec.toNat ((BitVec.ofInt 64 (IntKind.wrap IntKind.i64 (((BitVec.toNat ((BitVec.ofInt 64 n4) ||| (BitVec.ofInt 64 (32 : Int)))) : Nat) : Int))) ||| (BitVec.ofInt 64 (64 : Int)))) : Nat) : Int)))
 (some (IntKind.wrap IntKind.i64 (((BitVec.toNat ((BitVec.ofInt 64 n4) ||| (BitVec.ofInt 64 (32 : Int)))) : Nat) : Int)))) fun j7 =>
 (g_spec_SetWord N s (IntKind.wrap IntKind.i64 ((IntKind.wrap IntKind.i64 (n * (256 : Int))) + (IntKind.wrap IntKind.i64 ((4 : Int) * (Int.fdiv n1 (8192 : Int)))))) j7 fun s2 =>
 (k (0 : Int) (IntKind.wrap IntKind.i64 ((IntKind.wrap IntKind.i64 (j6 * (256 : Int))) + (Int.tmod n1 (256 : Int)))) j7 true false s2 [n])))))))))))))
noncomputable def ga_g_spec_Walk (N : Nat) (G_spec_SetWord : ∀ {R : Type} (s : ByteArray) (n : Int) (n1 : Int) (k : ByteArray → Option R), Option R) (G_spec_l03May : ∀ {R : Type} (n : Int) (n1 : Int) (b : Bool) (k : Bool → Option R), Option R) (G_spec_l03Entry : ∀ {R : Type} (s : ByteArray) (n : Int) (n1 : Int) (k : Int → Bool → Option R), Option R) (G_spec_l03Acc : ∀ {R : Type} (n : Int) (k : Bool → Option R), Option R) (G_spec_MemFault : ∀ {R : Type} (s : ByteArray) (k : Int → Option R), Option R) {R : Type} (s : ByteArray) (n : Int) (n1 : Int) (n2 : Int) (b : Bool) (k : Int → Int → Int → Bool → Bool → ByteArray → (List Int) → Option R) : Option R :=
 (oK (G_spec_MemFault s fun n3 =>
 (cond (n3 != (0 : Int))
 (some true)
 (cond (decide ((n < (0 : Int))))
 (some true)
 (cond (decide ((n > (255 : Int))))
 (some true)
 (cond (decide ((n1 < (0 : Int))))
 (some true)
 (cond (decide ((n1 ≥ (262144 : Int))))
 (some true)
 (G_spec_l03Acc n2 fun b1 =>
 (some (!b1))))))))) fun j =>
 (cond j
 (k (0 : Int) (0 : Int) (0 : Int) false true (ByteArray.mk (List.toArray [])) [])
 (G_spec_l03Entry s n (Int.fdiv n1 (8192 : Int)) fun n4 b2 =>
 (cond (!b2)
 (k (2 : Int) (0 : Int) (0 : Int) false false s [])
 (oK (cond ((IntKind.wrap IntKind.i64 (((BitVec.toNat ((BitVec.ofInt 64 n4) &&& (BitVec.ofInt 64 (1 : Int)))) : Nat) : Int)) != (0 : Int))
 (some ((IntKind.wrap IntKind.i64 (((BitVec.toNat ((BitVec.ofInt 64 n4) &&& (BitVec.ofInt 64 (14 : Int)))) : Nat) : Int)) == (0 : Int)))
 (some false)) fun j1 =>
 (cond j1
 (G_spec_l03Entry s (Int.fdiv n4 (256 : Int)) (Int.tmod (Int.fdiv n1 (256 : Int)) (32 : Int)) fun n5 b3 =>
 (cond (!b3)
 (k (2 : Int) (0 : Int) (0 : Int) false false s [n])
 (oK (cond ((IntKind.wrap IntKind.i64 (((BitVec.toNat ((BitVec.ofInt 64 n5) &&& (BitVec.ofInt 64 (1 : Int)))) : Nat) : Int)) == (0 : Int))
 (some true)
 (cond ((IntKind.wrap IntKind.i64 (((BitVec.toNat ((BitVec.ofInt 64 n5) &&& (BitVec.ofInt 64 (14 : Int)))) : Nat) : Int)) == (0 : Int))
 (some true)
 (G_spec_l03May n5 n2 b fun b4 =>
 (some (!b4))))) fun j2 =>
 (cond j2
 (k (1 : Int) (0 : Int) (0 : Int) false (cond (Nat.beq (List.length [(Int.fdiv n4 (256 : Int))]) 0) false false) s ([n] ++ [(Int.fdiv n4 (256 : Int))]))
 (oK (some (Int.fdiv n5 (256 : Int))) fun j3 =>
 (cond (decide (((IntKind.wrap IntKind.i64 ((IntKind.wrap IntKind.i64 (j3 + (1 : Int))) * (256 : Int))) > (((ByteArray.size s) : Nat) : Int))))
 (k (2 : Int) (0 : Int) (0 : Int) false (cond (Nat.beq (List.length [(Int.fdiv n4 (256 : Int))]) 0) false false) s ([n] ++ [(Int.fdiv n4 (256 : Int))]))
 (oK (cond (n2 == (2 : Int))
 (some (IntKind.wrap IntKind.i64 (((BitVec.toNat ((BitVec.ofInt 64 (IntKind.wrap IntKind.i64 (((BitVec.toNat ((BitVec.ofInt 64 n5) ||| (BitVec.ofInt 64 (32 : Int)))) : Nat) : Int))) ||| (BitVec.ofInt 64 (64 : Int)))) : Nat) : Int)))
 (some (IntKind.wrap IntKind.i64 (((BitVec.toNat ((BitVec.ofInt 64 n5) ||| (BitVec.ofInt 64 (32 : Int)))) : Nat) : Int)))) fun j4 =>
 (G_spec_SetWord s (IntKind.wrap IntKind.i64 ((IntKind.wrap IntKind.i64 ((Int.fdiv n4 (256 : Int)) * (256 : Int))) + (IntKind.wrap IntKind.i64 ((4 : Int) * (Int.tmod (Int.fdiv n1 (256 : Int)) (32 : Int)))))) j4 fun s1 =>
 (k (0 : Int) (IntKind.wrap IntKind.i64 ((IntKind.wrap IntKind.i64 (j3 * (256 : Int))) + (Int.tmod n1 (256 : Int)))) j4 false (cond (Nat.beq (List.length [(Int.fdiv n4 (256 : Int))]) 0) false false) s1 ([n] ++ [(Int.fdiv n4 (256 : Int))]))))))))))
 (oK (cond ((IntKind.wrap IntKind.i64 (((BitVec.toNat ((BitVec.ofInt 64 n4) &&& (BitVec.ofInt 64 (1 : Int)))) : Nat) : Int)) == (0 : Int))
 (some true)
 (cond ((IntKind.wrap IntKind.i64 (((BitVec.toNat ((BitVec.ofInt 64 n4) &&& (BitVec.ofInt 64 (14 : Int)))) : Nat) : Int)) == (0 : Int))
 (some true)
 (cond ((Int.tmod (Int.fdiv n4 (256 : Int)) (32 : Int)) != (0 : Int))
 (some true)
 (G_spec_l03May n4 n2 b fun b5 =>
 (some (!b5)))))) fun j5 =>
 (cond j5
 (k (1 : Int) (0 : Int) (0 : Int) false false s [n])
 (oK (some (IntKind.wrap IntKind.i64 ((Int.fdiv n4 (256 : Int)) + (Int.tmod (Int.fdiv n1 (256 : Int)) (32 : Int))))) fun j6 =>
 (cond (decide (((IntKind.wrap IntKind.i64 ((IntKind.wrap IntKind.i64 (j6 + (1 : Int))) * (256 : Int))) > (((ByteArray.size s) : Nat) : Int))))
 (k (2 : Int) (0 : Int) (0 : Int) false false s [n])
 (oK (cond (n2 == (2 : Int))
 (some (IntKind.wrap IntKind.i64 (((BitVec.toNat ((BitVec.ofInt 64 (IntKind.wrap IntKind.i64 (((BitVec.toNat ((BitVec.ofInt 64 n4) ||| (BitVec.ofInt 64 (32 : Int)))) : Nat) : Int))) ||| (BitVec.ofInt 64 (64 : Int)))) : Nat) : Int)))
 (some (IntKind.wrap IntKind.i64 (((BitVec.toNat ((BitVec.ofInt 64 n4) ||| (BitVec.ofInt 64 (32 : Int)))) : Nat) : Int)))) fun j7 =>
 (G_spec_SetWord s (IntKind.wrap IntKind.i64 ((IntKind.wrap IntKind.i64 (n * (256 : Int))) + (IntKind.wrap IntKind.i64 ((4 : Int) * (Int.fdiv n1 (8192 : Int)))))) j7 fun s2 =>
 (k (0 : Int) (IntKind.wrap IntKind.i64 ((IntKind.wrap IntKind.i64 (j6 * (256 : Int))) + (Int.tmod n1 (256 : Int)))) j7 true false s2 [n])))))))))))))
theorem ea_e_spec_Walk (N : Nat) (G_spec_SetWord : ∀ {R : Type} (s : ByteArray) (n : Int) (n1 : Int) (k : ByteArray → Option R), Option R) (G_spec_l03May : ∀ {R : Type} (n : Int) (n1 : Int) (b : Bool) (k : Bool → Option R), Option R) (G_spec_l03Entry : ∀ {R : Type} (s : ByteArray) (n : Int) (n1 : Int) (k : Int → Bool → Option R), Option R) (G_spec_l03Acc : ∀ {R : Type} (n : Int) (k : Bool → Option R), Option R) (G_spec_MemFault : ∀ {R : Type} (s : ByteArray) (k : Int → Option R), Option R) {R : Type} (s : ByteArray) (n : Int) (n1 : Int) (n2 : Int) (b : Bool) (K : AV → Hp E → Option R) :
    runFnI (E := E) (OA_spec_Walk N G_spec_SetWord G_spec_l03May G_spec_l03Entry G_spec_l03Acc G_spec_MemFault) (noIt) sl_spec_Walk J_spec_Walk Try.f9 [(AV.sc (SV.str s)), (AV.sc (SV.int IntKind.i64 n)), (AV.sc (SV.int IntKind.i64 n1)), (AV.sc (SV.int IntKind.i64 n2)), (AV.sc (SV.bool b))] [] K =
      ga_g_spec_Walk N G_spec_SetWord G_spec_l03May G_spec_l03Entry G_spec_l03Acc G_spec_MemFault s n n1 n2 b (fun n6 n7 n8 b6 b7 s3 l => K (AV.agg [(SV.int IntKind.i64 n6), (SV.int IntKind.i64 n7), (SV.int IntKind.i64 n8), (SV.bool b6), (SV.slc 0 none b7), (SV.str s3)]) [(some (HE.mk false (HB.rows (B.i64 l))))]) := by kernel_rfl
theorem e_spec_Walk (N : Nat) {R : Type} (s : ByteArray) (n : Int) (n1 : Int) (n2 : Int) (b : Bool) (K : AV → Hp E → Option R) :
    runFnI (E := E) (O_spec_Walk N) (noIt) sl_spec_Walk J_spec_Walk Try.f9 [(AV.sc (SV.str s)), (AV.sc (SV.int IntKind.i64 n)), (AV.sc (SV.int IntKind.i64 n1)), (AV.sc (SV.int IntKind.i64 n2)), (AV.sc (SV.bool b))] [] K =
      g_spec_Walk N s n n1 n2 b (fun n6 n7 n8 b6 b7 s3 l => K (AV.agg [(SV.int IntKind.i64 n6), (SV.int IntKind.i64 n7), (SV.int IntKind.i64 n8), (SV.bool b6), (SV.slc 0 none b7), (SV.str s3)]) [(some (HE.mk false (HB.rows (B.i64 l))))]) := castPr (by kernel_rfl) (ea_e_spec_Walk N (g_spec_SetWord N) (g_spec_l03May N) (g_spec_l03Entry N) (g_spec_l03Acc N) (g_spec_MemFault N) s n n1 n2 b K)
noncomputable def o_spec_Walk (N : Nat) {R : Type} (args : List AV) (H : Hp E) (K : AV → Hp E → Option R) : Option R :=
 match args, H with
 | [(AV.sc (SV.str s)), (AV.sc (SV.int IntKind.i64 n)), (AV.sc (SV.int IntKind.i64 n1)), (AV.sc (SV.int IntKind.i64 n2)), (AV.sc (SV.bool b))], [] => g_spec_Walk N s n n1 n2 b (fun n6 n7 n8 b6 b7 s3 l => K (AV.agg [(SV.int IntKind.i64 n6), (SV.int IntKind.i64 n7), (SV.int IntKind.i64 n8), (SV.bool b6), (SV.slc 0 none b7), (SV.str s3)]) [(some (HE.mk false (HB.rows (B.i64 l))))])
 | _, _ => none
theorem o_spec_Walk_ok (N : Nat) : FnOk E 9 (o_spec_Walk N) := by
  intro R args H K r h
  unfold o_spec_Walk at h
  dsimp only at h
  split at h
  · exact fnB_ok (ids := []) (top := []) ok (O_spec_Walk_ok N) (jn_ok _ _ _) Try.func9 (by kernel_rfl) (IT := noIt) (sl := sl_spec_Walk) (J := J_spec_Walk) (K := K) (H := []) (noIt_ok) (by kernel_rfl) rfl ((e_spec_Walk N _ _ _ _ _ K).trans h)
  · cases h
end Go.Sa
