import Derived.Test.YtflmjaehnbnjnaaSpec
import Derived.Test.YtflmjaehnbnjnaaPLb
set_option linter.all false
namespace Go.Sa
open Go Go.Eng Go.Proofs
set_option maxRecDepth 100000
set_option maxHeartbeats 4000000
theorem castPr {p q : Prop} (e : p = q) (h : p) : q := e ▸ h
/-! ### loop.example/g00038/spec.l01Source -/
abbrev sl_spec_l01Source_r : SlotT := [(0, ([0, 3, 4], [0, 3]))]
abbrev J_spec_l01Source_r : JT := jn [(3, [(15, .b)])] [] []
noncomputable def O_spec_l01Source_r (N : Nat) : Orc E := noFn
theorem O_spec_l01Source_r_ok (N : Nat) : OrcOk (O_spec_l01Source_r N) := noFn_ok
noncomputable def s_spec_l01Source_r_0 (N : Nat) {R : Type} (b1 : Bool) (l1 : List Int) (b2 : Bool) (n1 : Int) (n3 : Int) (n : Int) (n2 : Int) (ag : Int → Int → Option R)  (kN : Int → Option R) : Option R :=
 (oK (cond (decide ((n < (((List.length l1) : Nat) : Int))))
 (some (decide ((n < (64 : Int)))))
 (some false)) fun j =>
 (cond j
 (cond ((decide (((0 : Int) ≤ n))) && (decide ((n < (((List.length l1) : Nat) : Int)))))
 (elemK l1 (Int.toNat n) fun x =>
 (ag (IntKind.wrap IntKind.i64 (n + (1 : Int))) (IntKind.wrap IntKind.u64 ((IntKind.wrap IntKind.u64 (((BitVec.toNat ((BitVec.ofInt 64 n2) ^^^ (BitVec.ofInt 64 (IntKind.wrap IntKind.u64 x)))) : Nat) : Int)) * (1099511628211 : Int)))))
 none)
 (kN n2)))
noncomputable def l_spec_l01Source_r_0 (N : Nat) {R : Type} (b1 : Bool) (l1 : List Int) (b2 : Bool) (n1 : Int) (n3 : Int) (kN : Int → Option R) : Nat → Int → Int → Option R
 | 0, _, _ => none
 | f + 1, n, n2 => s_spec_l01Source_r_0 N b1 l1 b2 n1 n3 n n2 (fun n n2 => l_spec_l01Source_r_0 N b1 l1 b2 n1 n3 kN f n n2)  kN
noncomputable def c_spec_l01Source_r_0 (N : Nat) {R : Type} (b1 : Bool) (l1 : List Int) (b2 : Bool) (n1 : Int) (n3 : Int) (n : Int) (n2 : Int) (kN : Int → Option R) : Option R := l_spec_l01Source_r_0 N b1 l1 b2 n1 n3 kN N n n2
theorem se_spec_l01Source_r_0 (N : Nat) {R : Type} (b1 : Bool) (l1 : List Int) (b2 : Bool) (n1 : Int) (n3 : Int) (n : Int) (n2 : Int) (AG : List (Option AV) → Hp E → Option R) (KL : Ex → List (Option AV) → Hp E → Option R) :
    iterStep (E := E) (O_spec_l01Source_r N) (fun {R} => LI (noIt) 1 46 sl_spec_l01Source_r (R := R)) J_spec_l01Source_r 1 46 0 [0, 3, 4] [0, 3] (body Try.f25 0) AG KL [(some (AV.sc (SV.slc 0 none b1))), (some (AV.sc (SV.ptr 1 0 0))), (some (AV.sc (SV.int IntKind.i64 n)))] [(some (HE.mk true (HB.rows (B.u8 l1)))), (some (HE.mk false (HB.exp none [(SV.slc 0 none b2), (SV.int IntKind.i64 n1), (SV.int IntKind.u64 n2), (SV.int IntKind.i64 n3)])))] =
      s_spec_l01Source_r_0 N b1 l1 b2 n1 n3 n n2 (fun n n2 => AG [(some (AV.sc (SV.slc 0 none b1))), (some (AV.sc (SV.ptr 1 0 0))), (some (AV.sc (SV.int IntKind.i64 n)))] [(some (HE.mk true (HB.rows (B.u8 l1)))), (some (HE.mk false (HB.exp none [(SV.slc 0 none b2), (SV.int IntKind.i64 n1), (SV.int IntKind.u64 n2), (SV.int IntKind.i64 n3)])))])  (fun n7 => KL Ex.normal [(some (AV.sc (SV.slc 0 none b1))), (some (AV.sc (SV.ptr 1 0 0)))] [(some (HE.mk true (HB.rows (B.u8 l1)))), (some (HE.mk false (HB.exp none [(SV.slc 0 none b2), (SV.int IntKind.i64 n1), (SV.int IntKind.u64 n7), (SV.int IntKind.i64 n3)])))]) := by kernel_rfl
theorem le_spec_l01Source_r_0 (N : Nat) {R : Type} (b1 : Bool) (l1 : List Int) (b2 : Bool) (n1 : Int) (n3 : Int) (KL : Ex → List (Option AV) → Hp E → Option R) : ∀ (f : Nat), ∀ (n : Int) (n2 : Int), iterK (E := E) (O_spec_l01Source_r N) (fun {R} => LI (noIt) 1 46 sl_spec_l01Source_r (R := R)) J_spec_l01Source_r 1 46 0 [0, 3, 4] [0, 3] (body Try.f25 0) f [(some (AV.sc (SV.slc 0 none b1))), (some (AV.sc (SV.ptr 1 0 0))), (some (AV.sc (SV.int IntKind.i64 n)))] [(some (HE.mk true (HB.rows (B.u8 l1)))), (some (HE.mk false (HB.exp none [(SV.slc 0 none b2), (SV.int IntKind.i64 n1), (SV.int IntKind.u64 n2), (SV.int IntKind.i64 n3)])))] KL = l_spec_l01Source_r_0 N b1 l1 b2 n1 n3 (fun n7 => KL Ex.normal [(some (AV.sc (SV.slc 0 none b1))), (some (AV.sc (SV.ptr 1 0 0)))] [(some (HE.mk true (HB.rows (B.u8 l1)))), (some (HE.mk false (HB.exp none [(SV.slc 0 none b2), (SV.int IntKind.i64 n1), (SV.int IntKind.u64 n7), (SV.int IntKind.i64 n3)])))]) f n n2 := by
  intro f
  induction f with
  | zero => intros; rfl
  | succ f ih =>
    intro n n2
    rw [iterK_succ, se_spec_l01Source_r_0]
    exact (congrArg (fun z0 => s_spec_l01Source_r_0 N b1 l1 b2 n1 n3 n n2 z0 (fun n7 => KL Ex.normal [(some (AV.sc (SV.slc 0 none b1))), (some (AV.sc (SV.ptr 1 0 0)))] [(some (HE.mk true (HB.rows (B.u8 l1)))), (some (HE.mk false (HB.exp none [(SV.slc 0 none b2), (SV.int IntKind.i64 n1), (SV.int IntKind.u64 n7), (SV.int IntKind.i64 n3)])))])) (funext fun n => funext fun n2 => ih n n2))
noncomputable def i_spec_l01Source_r_0 (N : Nat) {R : Type} (vs : List (Option AV)) (H : Hp E) (KL : Ex → List (Option AV) → Hp E → Option R) : Option R :=
 match vs, H with
 | [(some (AV.sc (SV.slc 0 none b1))), (some (AV.sc (SV.ptr 1 0 0))), (some (AV.sc (SV.int IntKind.i64 n)))], [(some (HE.mk true (HB.rows (B.u8 l1)))), (some (HE.mk false (HB.exp none [(SV.slc 0 none b2), (SV.int IntKind.i64 n1), (SV.int IntKind.u64 n2), (SV.int IntKind.i64 n3)])))] => c_spec_l01Source_r_0 N b1 l1 b2 n1 n3 n n2 (fun n8 => KL Ex.normal [(some (AV.sc (SV.slc 0 none b1))), (some (AV.sc (SV.ptr 1 0 0)))] [(some (HE.mk true (HB.rows (B.u8 l1)))), (some (HE.mk false (HB.exp none [(SV.slc 0 none b2), (SV.int IntKind.i64 n1), (SV.int IntKind.u64 n8), (SV.int IntKind.i64 n3)])))])
 | _, _ => none
noncomputable def IT_spec_l01Source_r_0 (N : Nat) : Its E := addIt 0 (i_spec_l01Source_r_0 N) (noIt)
theorem IT_spec_l01Source_r_0_ok (N : Nat) : ItOk (IT_spec_l01Source_r_0 N) 1 46 sl_spec_l01Source_r (lsB Try.f25 [0]) :=
  addItB_ok (inner := []) ok (O_spec_l01Source_r_ok N) (jn_ok _ _ _) (noIt_ok) rfl (by kernel_rfl) rfl fun vs H KL r h => by
    unfold i_spec_l01Source_r_0 at h
    split at h
    · exact ⟨_, (le_spec_l01Source_r_0 N _ _ _ _ _ KL N _ _).trans h⟩
    · cases h
noncomputable def g_spec_l01Source_r (N : Nat) {R : Type} (b : Bool) (l : List Int) (k : Int → Int → Option R) : Option R :=
 (c_spec_l01Source_r_0 N b l b (0 : Int) (0 : Int) (0 : Int) (88172645463325252 : Int) fun n4 =>
 (cond (decide (((((List.length l) : Nat) : Int) > (12 : Int))))
 (k n4 (12 : Int))
 (k n4 (((List.length l) : Nat) : Int))))
theorem e_spec_l01Source_r (N : Nat) {R : Type} (b : Bool) (l : List Int) (K : AV → Hp E → Option R) :
    runFnI (E := E) (O_spec_l01Source_r N) (IT_spec_l01Source_r_0 N) sl_spec_l01Source_r J_spec_l01Source_r Try.f25 [(AV.sc (SV.slc 0 none b))] [(some (HE.mk true (HB.rows (B.u8 l))))] K =
      g_spec_l01Source_r N b l (fun n5 n6 => K (AV.sc (SV.ptr 1 0 0)) [(some (HE.mk true (HB.rows (B.u8 l)))), (some (HE.mk false (HB.exp none [(SV.slc 0 none b), (SV.int IntKind.i64 (0 : Int)), (SV.int IntKind.u64 n5), (SV.int IntKind.i64 n6)])))]) := by kernel_rfl
noncomputable def o_spec_l01Source_r (N : Nat) {R : Type} (args : List AV) (H : Hp E) (K : AV → Hp E → Option R) : Option R :=
 match args, H with
 | [(AV.sc (SV.slc 0 none b))], [(some (HE.mk true (HB.rows (B.u8 l))))] => g_spec_l01Source_r N b l (fun n5 n6 => K (AV.sc (SV.ptr 1 0 0)) [(some (HE.mk true (HB.rows (B.u8 l)))), (some (HE.mk false (HB.exp none [(SV.slc 0 none b), (SV.int IntKind.i64 (0 : Int)), (SV.int IntKind.u64 n5), (SV.int IntKind.i64 n6)])))])
 | _, _ => none
theorem o_spec_l01Source_r_ok (N : Nat) : FnOk E 25 (o_spec_l01Source_r N) := by
  intro R args H K r h
  unfold o_spec_l01Source_r at h
  dsimp only at h
  split at h
  · exact fnB_ok (ids := [0]) (top := [0]) ok (O_spec_l01Source_r_ok N) (jn_ok _ _ _) Try.func25 (by kernel_rfl) (IT := IT_spec_l01Source_r_0 N) (sl := sl_spec_l01Source_r) (J := J_spec_l01Source_r) (K := K) (H := [(some (HE.mk true (HB.rows (B.u8 _))))]) (IT_spec_l01Source_r_0_ok N) (by kernel_rfl) rfl ((e_spec_l01Source_r N _ _ K).trans h)
  · cases h
/-! ### (*loop.example/g00038/spec.l01Src).n -/
abbrev sl_spec_l01Src_n_Wr : SlotT := []
abbrev J_spec_l01Src_n_Wr : JT := jn [] [] []
noncomputable def O_spec_l01Src_n_Wr (N : Nat) : Orc E := noFn
theorem O_spec_l01Src_n_Wr_ok (N : Nat) : OrcOk (O_spec_l01Src_n_Wr N) := noFn_ok
noncomputable def g_spec_l01Src_n_Wr (N : Nat) {R : Type} (n : Int) (b : Bool) (n1 : Int) (n2 : Int) (n3 : Int) (l : List Int) (k : Int → Int → Int → Option R) : Option R :=
 (cond (decide ((n ≤ (1 : Int))))
 (k (0 : Int) n1 n2)
 (cond (decide ((n1 < (((List.length l) : Nat) : Int))))
 (cond ((decide (((0 : Int) ≤ n1))) && (decide ((n1 < (((List.length l) : Nat) : Int)))))
 (elemK l (Int.toNat n1) fun x =>
 (cond ((IntKind.wrap IntKind.u64 n) == (0 : Int))
 none
 (k (IntKind.wrap IntKind.i64 (Int.tmod (IntKind.wrap IntKind.u64 ((IntKind.wrap IntKind.u64 x) + (Int.fdiv (IntKind.wrap IntKind.u64 (((BitVec.toNat ((BitVec.ofInt 64 (IntKind.wrap IntKind.u64 (((BitVec.toNat ((BitVec.ofInt 64 (IntKind.wrap IntKind.u64 (((BitVec.toNat ((BitVec.ofInt 64 n2) ^^^ (BitVec.ofInt 64 (IntKind.wrap IntKind.u64 (n2 * (8192 : Int)))))) : Nat) : Int))) ^^^ (BitVec.ofInt 64 (Int.fdiv (IntKind.wrap IntKind.u64 (((BitVec.toNat ((BitVec.ofInt 64 n2) ^^^ (BitVec.ofInt 64 (IntKind.wrap IntKind.u64 (n2 * (8192 : Int)))))) : Nat) : Int)) (128 : Int))))) : Nat) : Int))) ^^^ (BitVec.ofInt 64 (IntKind.wrap IntKind.u64 ((IntKind.wrap IntKind.u64 (((BitVec.toNat ((BitVec.ofInt 64 (IntKind.wrap IntKind.u64 (((BitVec.toNat ((BitVec.ofInt 64 n2) ^^^ (BitVec.ofInt 64 (IntKind.wrap IntKind.u64 (n2 * (8192 : Int)))))) : Nat) : Int))) ^^^ (BitVec.ofInt 64 (Int.fdiv (IntKind.wrap IntKind.u64 (((BitVec.toNat ((BitVec.ofInt 64 n2) ^^^ (BitVec.ofInt 64 (IntKind.wrap IntKind.u64 (n2 * (8192 : Int)))))) : Nat) : Int)) (128 : Int))))) : Nat) : Int)) * (131072 : Int)))))) : Nat) : Int)) (1048576 : Int)))) (IntKind.wrap IntKind.u64 n))) (IntKind.wrap IntKind.i64 (n1 + (1 : Int))) (IntKind.wrap IntKind.u64 (((BitVec.toNat ((BitVec.ofInt 64 (IntKind.wrap IntKind.u64 (((BitVec.toNat ((BitVec.ofInt 64 (IntKind.wrap IntKind.u64 (((BitVec.toNat ((BitVec.ofInt 64 n2) ^^^ (BitVec.ofInt 64 (IntKind.wrap IntKind.u64 (n2 * (8192 : Int)))))) : Nat) : Int))) ^^^ (BitVec.ofInt 64 (Int.fdiv (IntKind.wrap IntKind.u64 (((BitVec.toNat ((BitVec.ofInt 64 n2) ^^^ (BitVec.ofInt 64 (IntKind.wrap IntKind.u64 (n2 * (8192 : Int)))))) : Nat) : Int)) (128 : Int))))) : Nat) : Int))) ^^^ (BitVec.ofInt 64 (IntKind.wrap IntKind.u64 ((IntKind.wrap IntKind.u64 (((BitVec.toNat ((BitVec.ofInt 64 (IntKind.wrap IntKind.u64 (((BitVec.toNat ((BitVec.ofInt 64 n2) ^^^ (BitVec.ofInt 64 (IntKind.wrap IntKind.u64 (n2 * (8192 : Int)))))) : Nat) : Int))) ^^^ (BitVec.ofInt 64 (Int.fdiv (IntKind.wrap IntKind.u64 (((BitVec.toNat ((BitVec.ofInt 64 n2) ^^^ (BitVec.ofInt 64 (IntKind.wrap IntKind.u64 (n2 * (8192 : Int)))))) : Nat) : Int)) (128 : Int))))) : Nat) : Int)) * (131072 : Int)))))) : Nat) : Int)))))
 none)
 (cond ((IntKind.wrap IntKind.u64 n) == (0 : Int))
 none
 (k (IntKind.wrap IntKind.i64 (Int.tmod (IntKind.wrap IntKind.u64 ((0 : Int) + (Int.fdiv (IntKind.wrap IntKind.u64 (((BitVec.toNat ((BitVec.ofInt 64 (IntKind.wrap IntKind.u64 (((BitVec.toNat ((BitVec.ofInt 64 (IntKind.wrap IntKind.u64 (((BitVec.toNat ((BitVec.ofInt 64 n2) ^^^ (BitVec.ofInt 64 (IntKind.wrap IntKind.u64 (n2 * (8192 : Int)))))) : Nat) : Int))) ^^^ (BitVec.ofInt 64 (Int.fdiv (IntKind.wrap IntKind.u64 (((BitVec.toNat ((BitVec.ofInt 64 n2) ^^^ (BitVec.ofInt 64 (IntKind.wrap IntKind.u64 (n2 * (8192 : Int)))))) : Nat) : Int)) (128 : Int))))) : Nat) : Int))) ^^^ (BitVec.ofInt 64 (IntKind.wrap IntKind.u64 ((IntKind.wrap IntKind.u64 (((BitVec.toNat ((BitVec.ofInt 64 (IntKind.wrap IntKind.u64 (((BitVec.toNat ((BitVec.ofInt 64 n2) ^^^ (BitVec.ofInt 64 (IntKind.wrap IntKind.u64 (n2 * (8192 : Int)))))) : Nat) : Int))) ^^^ (BitVec.ofInt 64 (Int.fdiv (IntKind.wrap IntKind.u64 (((BitVec.toNat ((BitVec.ofInt 64 n2) ^^^ (BitVec.ofInt 64 (IntKind.wrap IntKind.u64 (n2 * (8192 : Int)))))) : Nat) : Int)) (128 : Int))))) : Nat) : Int)) * (131072 : Int)))))) : Nat) : Int)) (1048576 : Int)))) (IntKind.wrap IntKind.u64 n))) n1 (IntKind.wrap IntKind.u64 (((BitVec.toNat ((BitVec.ofInt 64 (IntKind.wrap IntKind.u64 (((BitVec.toNat ((BitVec.ofInt 64 (IntKind.wrap IntKind.u64 (((BitVec.toNat ((BitVec.ofInt 64 n2) ^^^ (BitVec.ofInt 64 (IntKind.wrap IntKind.u64 (n2 * (8192 : Int)))))) : Nat) : Int))) ^^^ (BitVec.ofInt 64 (Int.fdiv (IntKind.wrap IntKind.u64 (((BitVec.toNat ((BitVec.ofInt 64 n2) ^^^ (BitVec.ofInt 64 (IntKind.wrap IntKind.u64 (n2 * (8192 : Int)))))) : Nat) : Int)) (128 : Int))))) : Nat) : Int))) ^^^ (BitVec.ofInt 64 (IntKind.wrap IntKind.u64 ((IntKind.wrap IntKind.u64 (((BitVec.toNat ((BitVec.ofInt 64 (IntKind.wrap IntKind.u64 (((BitVec.toNat ((BitVec.ofInt 64 n2) ^^^ (BitVec.ofInt 64 (IntKind.wrap IntKind.u64 (n2 * (8192 : Int)))))) : Nat) : Int))) ^^^ (BitVec.ofInt 64 (Int.fdiv (IntKind.wrap IntKind.u64 (((BitVec.toNat ((BitVec.ofInt 64 n2) ^^^ (BitVec.ofInt 64 (IntKind.wrap IntKind.u64 (n2 * (8192 : Int)))))) : Nat) : Int)) (128 : Int))))) : Nat) : Int)) * (131072 : Int)))))) : Nat) : Int))))))
theorem e_spec_l01Src_n_Wr (N : Nat) {R : Type} (n : Int) (b : Bool) (n1 : Int) (n2 : Int) (n3 : Int) (l : List Int) (K : AV → Hp E → Option R) :
    runFnI (E := E) (O_spec_l01Src_n_Wr N) (noIt) sl_spec_l01Src_n_Wr J_spec_l01Src_n_Wr Try.f27 [(AV.sc (SV.ptr 0 0 0)), (AV.sc (SV.int IntKind.i64 n))] [(some (HE.mk false (HB.exp none [(SV.slc 1 none b), (SV.int IntKind.i64 n1), (SV.int IntKind.u64 n2), (SV.int IntKind.i64 n3)]))), (some (HE.mk true (HB.rows (B.u8 l))))] K =
      g_spec_l01Src_n_Wr N n b n1 n2 n3 l (fun n4 n5 n6 => K (AV.sc (SV.int IntKind.i64 n4)) [(some (HE.mk false (HB.exp none [(SV.slc 1 none b), (SV.int IntKind.i64 n5), (SV.int IntKind.u64 n6), (SV.int IntKind.i64 n3)]))), (some (HE.mk true (HB.rows (B.u8 l))))]) := by kernel_rfl
noncomputable def o_spec_l01Src_n_Wr (N : Nat) {R : Type} (args : List AV) (H : Hp E) (K : AV → Hp E → Option R) : Option R :=
 match args, H with
 | [(AV.sc (SV.ptr 0 0 0)), (AV.sc (SV.int IntKind.i64 n))], [(some (HE.mk false (HB.exp none [(SV.slc 1 none b), (SV.int IntKind.i64 n1), (SV.int IntKind.u64 n2), (SV.int IntKind.i64 n3)]))), (some (HE.mk true (HB.rows (B.u8 l))))] => g_spec_l01Src_n_Wr N n b n1 n2 n3 l (fun n4 n5 n6 => K (AV.sc (SV.int IntKind.i64 n4)) [(some (HE.mk false (HB.exp none [(SV.slc 1 none b), (SV.int IntKind.i64 n5), (SV.int IntKind.u64 n6), (SV.int IntKind.i64 n3)]))), (some (HE.mk true (HB.rows (B.u8 l))))])
 | _, _ => none
theorem o_spec_l01Src_n_Wr_ok (N : Nat) : FnOk E 27 (o_spec_l01Src_n_Wr N) := by
  intro R args H K r h
  unfold o_spec_l01Src_n_Wr at h
  dsimp only at h
  split at h
  · exact fnB_ok (ids := []) (top := []) ok (O_spec_l01Src_n_Wr_ok N) (jn_ok _ _ _) Try.func27 (by kernel_rfl) (IT := noIt) (sl := sl_spec_l01Src_n_Wr) (J := J_spec_l01Src_n_Wr) (K := K) (H := [(some (HE.mk false (HB.exp none [(SV.slc 1 none _), (SV.int IntKind.i64 _), (SV.int IntKind.u64 _), (SV.int IntKind.i64 _)]))), (some (HE.mk true (HB.rows (B.u8 _))))]) (noIt_ok) (by kernel_rfl) rfl ((e_spec_l01Src_n_Wr N _ _ _ _ _ _ K).trans h)
  · cases h
/-! ### (*loop.example/g00038/spec.l01Src).one -/
abbrev sl_spec_l01Src_one_Wr : SlotT := []
abbrev J_spec_l01Src_one_Wr : JT := jn [] [] []
noncomputable def O_spec_l01Src_one_Wr (N : Nat) : Orc E := addFn 27 (o_spec_l01Src_n_Wr N) (noFn)
noncomputable def pa_spec_l01Src_one_Wr__o_spec_l01Src_n_Wr (N : Nat) (G_spec_l01Src_n_Wr : ∀ {R : Type} (n : Int) (b : Bool) (n1 : Int) (n2 : Int) (n3 : Int) (l : List Int) (k : Int → Int → Int → Option R), Option R) {R : Type} (args : List AV) (H : Hp E) (K : AV → Hp E → Option R) : Option R :=
 match args, H with
 | [(AV.sc (SV.ptr 0 0 0)), (AV.sc (SV.int IntKind.i64 n))], [(some (HE.mk false (HB.exp none [(SV.slc 1 none b), (SV.int IntKind.i64 n1), (SV.int IntKind.u64 n2), (SV.int IntKind.i64 n3)]))), (some (HE.mk true (HB.rows (B.u8 l))))] => G_spec_l01Src_n_Wr n b n1 n2 n3 l (fun n4 n5 n6 => K (AV.sc (SV.int IntKind.i64 n4)) [(some (HE.mk false (HB.exp none [(SV.slc 1 none b), (SV.int IntKind.i64 n5), (SV.int IntKind.u64 n6), (SV.int IntKind.i64 n3)]))), (some (HE.mk true (HB.rows (B.u8 l))))])
 | _, _ => none
noncomputable def OA_spec_l01Src_one_Wr (N : Nat) (G_spec_l01Src_n_Wr : ∀ {R : Type} (n : Int) (b : Bool) (n1 : Int) (n2 : Int) (n3 : Int) (l : List Int) (k : Int → Int → Int → Option R), Option R) : Orc E := addFn 27 (pa_spec_l01Src_one_Wr__o_spec_l01Src_n_Wr N G_spec_l01Src_n_Wr) (noFn)
theorem O_spec_l01Src_one_Wr_ok (N : Nat) : OrcOk (O_spec_l01Src_one_Wr N) := addFn_ok (o_spec_l01Src_n_Wr_ok N) (noFn_ok)
noncomputable def g_spec_l01Src_one_Wr (N : Nat) {R : Type} (n : Int) (b : Bool) (n1 : Int) (n2 : Int) (n3 : Int) (l : List Int) (k : Bool → Int → Int → Option R) : Option R :=
 (g_spec_l01Src_n_Wr N n b n1 n2 n3 l fun n4 n5 n6 =>
 (k (n4 == (0 : Int)) n5 n6))
noncomputable def ga_g_spec_l01Src_one_Wr (N : Nat) (G_spec_l01Src_n_Wr : ∀ {R : Type} (n : Int) (b : Bool) (n1 : Int) (n2 : Int) (n3 : Int) (l : List Int) (k : Int → Int → Int → Option R), Option R) {R : Type} (n : Int) (b : Bool) (n1 : Int) (n2 : Int) (n3 : Int) (l : List Int) (k : Bool → Int → Int → Option R) : Option R :=
 (G_spec_l01Src_n_Wr n b n1 n2 n3 l fun n4 n5 n6 =>
 (k (n4 == (0 : Int)) n5 n6))
theorem ea_e_spec_l01Src_one_Wr (N : Nat) (G_spec_l01Src_n_Wr : ∀ {R : Type} (n : Int) (b : Bool) (n1 : Int) (n2 : Int) (n3 : Int) (l : List Int) (k : Int → Int → Int → Option R), Option R) {R : Type} (n : Int) (b : Bool) (n1 : Int) (n2 : Int) (n3 : Int) (l : List Int) (K : AV → Hp E → Option R) :
    runFnI (E := E) (OA_spec_l01Src_one_Wr N G_spec_l01Src_n_Wr) (noIt) sl_spec_l01Src_one_Wr J_spec_l01Src_one_Wr Try.f26 [(AV.sc (SV.ptr 0 0 0)), (AV.sc (SV.int IntKind.i64 n))] [(some (HE.mk false (HB.exp none [(SV.slc 1 none b), (SV.int IntKind.i64 n1), (SV.int IntKind.u64 n2), (SV.int IntKind.i64 n3)]))), (some (HE.mk true (HB.rows (B.u8 l))))] K =
      ga_g_spec_l01Src_one_Wr N G_spec_l01Src_n_Wr n b n1 n2 n3 l (fun b1 n7 n8 => K (AV.sc (SV.bool b1)) [(some (HE.mk false (HB.exp none [(SV.slc 1 none b), (SV.int IntKind.i64 n7), (SV.int IntKind.u64 n8), (SV.int IntKind.i64 n3)]))), (some (HE.mk true (HB.rows (B.u8 l))))]) := by kernel_rfl
theorem e_spec_l01Src_one_Wr (N : Nat) {R : Type} (n : Int) (b : Bool) (n1 : Int) (n2 : Int) (n3 : Int) (l : List Int) (K : AV → Hp E → Option R) :
    runFnI (E := E) (O_spec_l01Src_one_Wr N) (noIt) sl_spec_l01Src_one_Wr J_spec_l01Src_one_Wr Try.f26 [(AV.sc (SV.ptr 0 0 0)), (AV.sc (SV.int IntKind.i64 n))] [(some (HE.mk false (HB.exp none [(SV.slc 1 none b), (SV.int IntKind.i64 n1), (SV.int IntKind.u64 n2), (SV.int IntKind.i64 n3)]))), (some (HE.mk true (HB.rows (B.u8 l))))] K =
      g_spec_l01Src_one_Wr N n b n1 n2 n3 l (fun b1 n7 n8 => K (AV.sc (SV.bool b1)) [(some (HE.mk false (HB.exp none [(SV.slc 1 none b), (SV.int IntKind.i64 n7), (SV.int IntKind.u64 n8), (SV.int IntKind.i64 n3)]))), (some (HE.mk true (HB.rows (B.u8 l))))]) := castPr (by kernel_rfl) (ea_e_spec_l01Src_one_Wr N (g_spec_l01Src_n_Wr N) n b n1 n2 n3 l K)
noncomputable def o_spec_l01Src_one_Wr (N : Nat) {R : Type} (args : List AV) (H : Hp E) (K : AV → Hp E → Option R) : Option R :=
 match args, H with
 | [(AV.sc (SV.ptr 0 0 0)), (AV.sc (SV.int IntKind.i64 n))], [(some (HE.mk false (HB.exp none [(SV.slc 1 none b), (SV.int IntKind.i64 n1), (SV.int IntKind.u64 n2), (SV.int IntKind.i64 n3)]))), (some (HE.mk true (HB.rows (B.u8 l))))] => g_spec_l01Src_one_Wr N n b n1 n2 n3 l (fun b1 n7 n8 => K (AV.sc (SV.bool b1)) [(some (HE.mk false (HB.exp none [(SV.slc 1 none b), (SV.int IntKind.i64 n7), (SV.int IntKind.u64 n8), (SV.int IntKind.i64 n3)]))), (some (HE.mk true (HB.rows (B.u8 l))))])
 | _, _ => none
theorem o_spec_l01Src_one_Wr_ok (N : Nat) : FnOk E 26 (o_spec_l01Src_one_Wr N) := by
  intro R args H K r h
  unfold o_spec_l01Src_one_Wr at h
  dsimp only at h
  split at h
  · exact fnB_ok (ids := []) (top := []) ok (O_spec_l01Src_one_Wr_ok N) (jn_ok _ _ _) Try.func26 (by kernel_rfl) (IT := noIt) (sl := sl_spec_l01Src_one_Wr) (J := J_spec_l01Src_one_Wr) (K := K) (H := [(some (HE.mk false (HB.exp none [(SV.slc 1 none _), (SV.int IntKind.i64 _), (SV.int IntKind.u64 _), (SV.int IntKind.i64 _)]))), (some (HE.mk true (HB.rows (B.u8 _))))]) (noIt_ok) (by kernel_rfl) rfl ((e_spec_l01Src_one_Wr N _ _ _ _ _ _ K).trans h)
  · cases h
/-! ### (*loop.example/g00038/spec.l01Src).frames -/
abbrev sl_spec_l01Src_frames_Wr : SlotT := [(0, ([0, 5, 6], [5]))]
abbrev J_spec_l01Src_frames_Wr : JT := jn [] [] []
noncomputable def O_spec_l01Src_frames_Wr (N : Nat) : Orc E := addFn 27 (o_spec_l01Src_n_Wr N) (noFn)
theorem O_spec_l01Src_frames_Wr_ok (N : Nat) : OrcOk (O_spec_l01Src_frames_Wr N) := addFn_ok (o_spec_l01Src_n_Wr_ok N) (noFn_ok)
noncomputable def s_spec_l01Src_frames_Wr_0 (N : Nat) {R : Type} (b1 : Bool) (b2 : Bool) (n10 : Int) (l1 : List Int) (n7 : Int) (n8 : Int) (n9 : Int) (l2 : List Int) (ag : Int → Int → Int → (List Int) → Option R)  (kN : Int → Int → (List Int) → Option R) : Option R :=
 (cond (decide ((n7 > (0 : Int))))
 (g_spec_l01Src_n_Wr N (((List.length l2) : Nat) : Int) b2 n8 n9 n10 l1 fun n11 n12 n13 =>
 (g_spec_l01Src_n_Wr N (256 : Int) b2 n12 n13 n10 l1 fun n14 n15 n16 =>
 (cond ((decide (((0 : Int) ≤ n11))) && (decide ((n11 < (((List.length l2) : Nat) : Int)))))
 (elemK l2 (Int.toNat n11) fun x =>
 (cond (Nat.blt (Int.toNat n11) (List.length l2))
 (ag (IntKind.wrap IntKind.i64 (n7 - (1 : Int))) n15 n16 (nset l2 (Int.toNat n11) (IntKind.wrap IntKind.u8 n14)))
 none))
 none)))
 (kN n8 n9 l2))
noncomputable def l_spec_l01Src_frames_Wr_0 (N : Nat) {R : Type} (b1 : Bool) (b2 : Bool) (n10 : Int) (l1 : List Int) (kN : Int → Int → (List Int) → Option R) : Nat → Int → Int → Int → (List Int) → Option R
 | 0, _, _, _, _ => none
 | f + 1, n7, n8, n9, l2 => s_spec_l01Src_frames_Wr_0 N b1 b2 n10 l1 n7 n8 n9 l2 (fun n7 n8 n9 l2 => l_spec_l01Src_frames_Wr_0 N b1 b2 n10 l1 kN f n7 n8 n9 l2)  kN
noncomputable def c_spec_l01Src_frames_Wr_0 (N : Nat) {R : Type} (b1 : Bool) (b2 : Bool) (n10 : Int) (l1 : List Int) (n7 : Int) (n8 : Int) (n9 : Int) (l2 : List Int) (kN : Int → Int → (List Int) → Option R) : Option R := l_spec_l01Src_frames_Wr_0 N b1 b2 n10 l1 kN N n7 n8 n9 l2
theorem se_spec_l01Src_frames_Wr_0 (N : Nat) {R : Type} (b1 : Bool) (b2 : Bool) (n10 : Int) (l1 : List Int) (n7 : Int) (n8 : Int) (n9 : Int) (l2 : List Int) (AG : List (Option AV) → Hp E → Option R) (KL : Ex → List (Option AV) → Hp E → Option R) :
    iterStep (E := E) (O_spec_l01Src_frames_Wr N) (fun {R} => LI (noIt) 2 27 sl_spec_l01Src_frames_Wr (R := R)) J_spec_l01Src_frames_Wr 2 27 0 [0, 5, 6] [5] (body Try.f65 0) AG KL [(some (AV.sc (SV.ptr 0 0 0))), (some (AV.sc (SV.slc 2 none b1))), (some (AV.sc (SV.int IntKind.i64 n7)))] [(some (HE.mk false (HB.exp none [(SV.slc 1 none b2), (SV.int IntKind.i64 n8), (SV.int IntKind.u64 n9), (SV.int IntKind.i64 n10)]))), (some (HE.mk true (HB.rows (B.u8 l1)))), (some (HE.mk false (HB.rows (B.u8 l2))))] =
      s_spec_l01Src_frames_Wr_0 N b1 b2 n10 l1 n7 n8 n9 l2 (fun n7 n8 n9 l2 => AG [(some (AV.sc (SV.ptr 0 0 0))), (some (AV.sc (SV.slc 2 none b1))), (some (AV.sc (SV.int IntKind.i64 n7)))] [(some (HE.mk false (HB.exp none [(SV.slc 1 none b2), (SV.int IntKind.i64 n8), (SV.int IntKind.u64 n9), (SV.int IntKind.i64 n10)]))), (some (HE.mk true (HB.rows (B.u8 l1)))), (some (HE.mk false (HB.rows (B.u8 l2))))])  (fun n21 n22 l4 => KL Ex.normal [(some (AV.sc (SV.slc 2 none b1)))] [(some (HE.mk false (HB.exp none [(SV.slc 1 none b2), (SV.int IntKind.i64 n21), (SV.int IntKind.u64 n22), (SV.int IntKind.i64 n10)]))), (some (HE.mk true (HB.rows (B.u8 l1)))), (some (HE.mk false (HB.rows (B.u8 l4))))]) := by kernel_rfl
theorem le_spec_l01Src_frames_Wr_0 (N : Nat) {R : Type} (b1 : Bool) (b2 : Bool) (n10 : Int) (l1 : List Int) (KL : Ex → List (Option AV) → Hp E → Option R) : ∀ (f : Nat), ∀ (n7 : Int) (n8 : Int) (n9 : Int) (l2 : List Int), iterK (E := E) (O_spec_l01Src_frames_Wr N) (fun {R} => LI (noIt) 2 27 sl_spec_l01Src_frames_Wr (R := R)) J_spec_l01Src_frames_Wr 2 27 0 [0, 5, 6] [5] (body Try.f65 0) f [(some (AV.sc (SV.ptr 0 0 0))), (some (AV.sc (SV.slc 2 none b1))), (some (AV.sc (SV.int IntKind.i64 n7)))] [(some (HE.mk false (HB.exp none [(SV.slc 1 none b2), (SV.int IntKind.i64 n8), (SV.int IntKind.u64 n9), (SV.int IntKind.i64 n10)]))), (some (HE.mk true (HB.rows (B.u8 l1)))), (some (HE.mk false (HB.rows (B.u8 l2))))] KL = l_spec_l01Src_frames_Wr_0 N b1 b2 n10 l1 (fun n21 n22 l4 => KL Ex.normal [(some (AV.sc (SV.slc 2 none b1)))] [(some (HE.mk false (HB.exp none [(SV.slc 1 none b2), (SV.int IntKind.i64 n21), (SV.int IntKind.u64 n22), (SV.int IntKind.i64 n10)]))), (some (HE.mk true (HB.rows (B.u8 l1)))), (some (HE.mk false (HB.rows (B.u8 l4))))]) f n7 n8 n9 l2 := by
  intro f
  induction f with
  | zero => intros; rfl
  | succ f ih =>
    intro n7 n8 n9 l2
    rw [iterK_succ, se_spec_l01Src_frames_Wr_0]
    exact (congrArg (fun z0 => s_spec_l01Src_frames_Wr_0 N b1 b2 n10 l1 n7 n8 n9 l2 z0 (fun n21 n22 l4 => KL Ex.normal [(some (AV.sc (SV.slc 2 none b1)))] [(some (HE.mk false (HB.exp none [(SV.slc 1 none b2), (SV.int IntKind.i64 n21), (SV.int IntKind.u64 n22), (SV.int IntKind.i64 n10)]))), (some (HE.mk true (HB.rows (B.u8 l1)))), (some (HE.mk false (HB.rows (B.u8 l4))))])) (funext fun n7 => funext fun n8 => funext fun n9 => funext fun l2 => ih n7 n8 n9 l2))
noncomputable def i_spec_l01Src_frames_Wr_0 (N : Nat) {R : Type} (vs : List (Option AV)) (H : Hp E) (KL : Ex → List (Option AV) → Hp E → Option R) : Option R :=
 match vs, H with
 | [(some (AV.sc (SV.ptr 0 0 0))), (some (AV.sc (SV.slc 2 none b1))), (some (AV.sc (SV.int IntKind.i64 n7)))], [(some (HE.mk false (HB.exp none [(SV.slc 1 none b2), (SV.int IntKind.i64 n8), (SV.int IntKind.u64 n9), (SV.int IntKind.i64 n10)]))), (some (HE.mk true (HB.rows (B.u8 l1)))), (some (HE.mk false (HB.rows (B.u8 l2))))] => c_spec_l01Src_frames_Wr_0 N b1 b2 n10 l1 n7 n8 n9 l2 (fun n23 n24 l5 => KL Ex.normal [(some (AV.sc (SV.slc 2 none b1)))] [(some (HE.mk false (HB.exp none [(SV.slc 1 none b2), (SV.int IntKind.i64 n23), (SV.int IntKind.u64 n24), (SV.int IntKind.i64 n10)]))), (some (HE.mk true (HB.rows (B.u8 l1)))), (some (HE.mk false (HB.rows (B.u8 l5))))])
 | _, _ => none
noncomputable def IT_spec_l01Src_frames_Wr_0 (N : Nat) : Its E := addIt 0 (i_spec_l01Src_frames_Wr_0 N) (noIt)
theorem IT_spec_l01Src_frames_Wr_0_ok (N : Nat) : ItOk (IT_spec_l01Src_frames_Wr_0 N) 2 27 sl_spec_l01Src_frames_Wr (lsB Try.f65 [0]) :=
  addItB_ok (inner := []) ok (O_spec_l01Src_frames_Wr_ok N) (jn_ok _ _ _) (noIt_ok) rfl (by kernel_rfl) rfl fun vs H KL r h => by
    unfold i_spec_l01Src_frames_Wr_0 at h
    split at h
    · exact ⟨_, (le_spec_l01Src_frames_Wr_0 N _ _ _ _ KL N _ _ _ _).trans h⟩
    · cases h
noncomputable def g_spec_l01Src_frames_Wr (N : Nat) {R : Type} (n : Int) (b : Bool) (n1 : Int) (n2 : Int) (n3 : Int) (l : List Int) (k : ByteArray → Int → Int → Option R) : Option R :=
 (cond (((decide (((IntKind.wrap IntKind.i64 (n * (256 : Int))) = (IntKind.wrap IntKind.i64 (n * (256 : Int)))))) && (decide (((0 : Int) ≤ (IntKind.wrap IntKind.i64 (n * (256 : Int))))))) && (Go.Eng.roomOk (Int.toNat (IntKind.wrap IntKind.i64 (n * (256 : Int)))) 1))
 (g_spec_l01Src_n_Wr N (6 : Int) b n1 n2 n3 l fun n4 n5 n6 =>
 (c_spec_l01Src_frames_Wr_0 N false b n3 l n4 n5 n6 (List.replicate (Int.toNat (IntKind.wrap IntKind.i64 (n * (256 : Int)))) (0 : Int)) fun n17 n18 l3 =>
 (cond (Nat.ble (0 + (List.length l3)) (List.length l3))
 (k (Go.Eng.toBytes (Go.Eng.seg l3 0 (List.length l3))) n17 n18)
 none)))
 none)
theorem e_spec_l01Src_frames_Wr (N : Nat) {R : Type} (n : Int) (b : Bool) (n1 : Int) (n2 : Int) (n3 : Int) (l : List Int) (K : AV → Hp E → Option R) :
    runFnI (E := E) (O_spec_l01Src_frames_Wr N) (IT_spec_l01Src_frames_Wr_0 N) sl_spec_l01Src_frames_Wr J_spec_l01Src_frames_Wr Try.f65 [(AV.sc (SV.ptr 0 0 0)), (AV.sc (SV.int IntKind.i64 n))] [(some (HE.mk false (HB.exp none [(SV.slc 1 none b), (SV.int IntKind.i64 n1), (SV.int IntKind.u64 n2), (SV.int IntKind.i64 n3)]))), (some (HE.mk true (HB.rows (B.u8 l))))] K =
      g_spec_l01Src_frames_Wr N n b n1 n2 n3 l (fun s n19 n20 => K (AV.sc (SV.str s)) [(some (HE.mk false (HB.exp none [(SV.slc 1 none b), (SV.int IntKind.i64 n19), (SV.int IntKind.u64 n20), (SV.int IntKind.i64 n3)]))), (some (HE.mk true (HB.rows (B.u8 l))))]) := by kernel_rfl
noncomputable def o_spec_l01Src_frames_Wr (N : Nat) {R : Type} (args : List AV) (H : Hp E) (K : AV → Hp E → Option R) : Option R :=
 match args, H with
 | [(AV.sc (SV.ptr 0 0 0)), (AV.sc (SV.int IntKind.i64 n))], [(some (HE.mk false (HB.exp none [(SV.slc 1 none b), (SV.int IntKind.i64 n1), (SV.int IntKind.u64 n2), (SV.int IntKind.i64 n3)]))), (some (HE.mk true (HB.rows (B.u8 l))))] => g_spec_l01Src_frames_Wr N n b n1 n2 n3 l (fun s n19 n20 => K (AV.sc (SV.str s)) [(some (HE.mk false (HB.exp none [(SV.slc 1 none b), (SV.int IntKind.i64 n19), (SV.int IntKind.u64 n20), (SV.int IntKind.i64 n3)]))), (some (HE.mk true (HB.rows (B.u8 l))))])
 | _, _ => none
theorem o_spec_l01Src_frames_Wr_ok (N : Nat) : FnOk E 65 (o_spec_l01Src_frames_Wr N) := by
  intro R args H K r h
  unfold o_spec_l01Src_frames_Wr at h
  dsimp only at h
  split at h
  · exact fnB_ok (ids := [0]) (top := [0]) ok (O_spec_l01Src_frames_Wr_ok N) (jn_ok _ _ _) Try.func65 (by kernel_rfl) (IT := IT_spec_l01Src_frames_Wr_0 N) (sl := sl_spec_l01Src_frames_Wr) (J := J_spec_l01Src_frames_Wr) (K := K) (H := [(some (HE.mk false (HB.exp none [(SV.slc 1 none _), (SV.int IntKind.i64 _), (SV.int IntKind.u64 _), (SV.int IntKind.i64 _)]))), (some (HE.mk true (HB.rows (B.u8 _))))]) (IT_spec_l01Src_frames_Wr_0_ok N) (by kernel_rfl) rfl ((e_spec_l01Src_frames_Wr N _ _ _ _ _ _ K).trans h)
  · cases h
/-! ### (*loop.example/g00038/spec.l01Src).maps -/
abbrev sl_spec_l01Src_maps_Wr : SlotT := [(0, ([0, 1, 5, 6, 7], [5]))]
abbrev J_spec_l01Src_maps_Wr : JT := jn [] [] [(6, [2, 8, 11])]
noncomputable def O_spec_l01Src_maps_Wr (N : Nat) : Orc E := addFn 26 (o_spec_l01Src_one_Wr N) (addFn 27 (o_spec_l01Src_n_Wr N) (noFn))
noncomputable def pa_spec_l01Src_maps_Wr__o_spec_l01Src_one_Wr (N : Nat) (G_spec_l01Src_one_Wr : ∀ {R : Type} (n : Int) (b : Bool) (n1 : Int) (n2 : Int) (n3 : Int) (l : List Int) (k : Bool → Int → Int → Option R), Option R) {R : Type} (args : List AV) (H : Hp E) (K : AV → Hp E → Option R) : Option R :=
 match args, H with
 | [(AV.sc (SV.ptr 0 0 0)), (AV.sc (SV.int IntKind.i64 n))], [(some (HE.mk false (HB.exp none [(SV.slc 1 none b), (SV.int IntKind.i64 n1), (SV.int IntKind.u64 n2), (SV.int IntKind.i64 n3)]))), (some (HE.mk true (HB.rows (B.u8 l))))] => G_spec_l01Src_one_Wr n b n1 n2 n3 l (fun b1 n7 n8 => K (AV.sc (SV.bool b1)) [(some (HE.mk false (HB.exp none [(SV.slc 1 none b), (SV.int IntKind.i64 n7), (SV.int IntKind.u64 n8), (SV.int IntKind.i64 n3)]))), (some (HE.mk true (HB.rows (B.u8 l))))])
 | _, _ => none
noncomputable def pa_spec_l01Src_maps_Wr__o_spec_l01Src_n_Wr (N : Nat) (G_spec_l01Src_n_Wr : ∀ {R : Type} (n : Int) (b : Bool) (n1 : Int) (n2 : Int) (n3 : Int) (l : List Int) (k : Int → Int → Int → Option R), Option R) {R : Type} (args : List AV) (H : Hp E) (K : AV → Hp E → Option R) : Option R :=
 match args, H with
 | [(AV.sc (SV.ptr 0 0 0)), (AV.sc (SV.int IntKind.i64 n))], [(some (HE.mk false (HB.exp none [(SV.slc 1 none b), (SV.int IntKind.i64 n1), (SV.int IntKind.u64 n2), (SV.int IntKind.i64 n3)]))), (some (HE.mk true (HB.rows (B.u8 l))))] => G_spec_l01Src_n_Wr n b n1 n2 n3 l (fun n4 n5 n6 => K (AV.sc (SV.int IntKind.i64 n4)) [(some (HE.mk false (HB.exp none [(SV.slc 1 none b), (SV.int IntKind.i64 n5), (SV.int IntKind.u64 n6), (SV.int IntKind.i64 n3)]))), (some (HE.mk true (HB.rows (B.u8 l))))])
 | _, _ => none
noncomputable def OA_spec_l01Src_maps_Wr (N : Nat) (G_spec_l01Src_one_Wr : ∀ {R : Type} (n : Int) (b : Bool) (n1 : Int) (n2 : Int) (n3 : Int) (l : List Int) (k : Bool → Int → Int → Option R), Option R) (G_spec_l01Src_n_Wr : ∀ {R : Type} (n : Int) (b : Bool) (n1 : Int) (n2 : Int) (n3 : Int) (l : List Int) (k : Int → Int → Int → Option R), Option R) : Orc E := addFn 26 (pa_spec_l01Src_maps_Wr__o_spec_l01Src_one_Wr N G_spec_l01Src_one_Wr) (addFn 27 (pa_spec_l01Src_maps_Wr__o_spec_l01Src_n_Wr N G_spec_l01Src_n_Wr) (noFn))
theorem O_spec_l01Src_maps_Wr_ok (N : Nat) : OrcOk (O_spec_l01Src_maps_Wr N) := addFn_ok (o_spec_l01Src_one_Wr_ok N) (addFn_ok (o_spec_l01Src_n_Wr_ok N) (noFn_ok))
noncomputable def s_spec_l01Src_maps_Wr_0 (N : Nat) {R : Type} (n7 : Int) (b2 : Bool) (b3 : Bool) (n11 : Int) (l1 : List Int) (l3 : List Int) (b1 : Bool) (n8 : Int) (n9 : Int) (n10 : Int) (l2 : List PageMap) (ag : Bool → Int → Int → Int → (List PageMap) → Option R)  (kN : Bool → Int → Int → (List PageMap) → Option R) : Option R :=
 (cond (decide ((n8 > (0 : Int))))
 (g_spec_l01Src_n_Wr N (8 : Int) b3 n9 n10 n11 l1 fun n12 n13 n14 =>
 (cond ((decide (((0 : Int) ≤ n12))) && (decide ((n12 < (8 : Int)))))
 (elemK [(0 : Int), (1 : Int), (2 : Int), (31 : Int), (32 : Int), (33 : Int), (64 : Int), (1023 : Int)] (Int.toNat n12) fun x =>
 (g_spec_l01Src_n_Wr N n7 b3 n13 n14 n11 l1 fun n15 n16 n17 =>
 (g_spec_l01Src_n_Wr N (6 : Int) b3 n16 n17 n11 l1 fun n18 n19 n20 =>
 (cond ((decide (((0 : Int) ≤ n18))) && (decide ((n18 < (((List.length l3) : Nat) : Int)))))
 (elemK l3 (Int.toNat n18) fun x1 =>
 (g_spec_l01Src_one_Wr N (5 : Int) b3 n19 n20 n11 l1 fun b4 n21 n22 =>
 (cond b4
 (g_spec_l01Src_n_Wr N (4 : Int) b3 n21 n22 n11 l1 fun n23 n24 n25 =>
 (g_spec_l01Src_n_Wr N (2 : Int) b3 n24 n25 n11 l1 fun n26 n27 n28 =>
 (g_spec_l01Src_n_Wr N (6 : Int) b3 n27 n28 n11 l1 fun n29 n30 n31 =>
 (cond ((decide (((0 : Int) ≤ n29))) && (decide ((n29 < (((List.length l3) : Nat) : Int)))))
 (elemK l3 (Int.toNat n29) fun x2 =>
 (g_spec_l01Src_one_Wr N (20 : Int) b3 n30 n31 n11 l1 fun b5 n32 n33 =>
 (cond b5
 (g_spec_l01Src_n_Wr N (3 : Int) b3 n32 n33 n11 l1 fun n34 n35 n36 =>
 (cond (Go.Eng.roomOk ((List.length l2) + (List.length [(PageMap.mk (IntKind.wrap IntKind.i64 (n23 * (8192 : Int))) (IntKind.wrap IntKind.i64 ((1023 : Int) - n34)) x2 true)])) 32)
 (ag (cond (Nat.beq (List.length [(PageMap.mk (IntKind.wrap IntKind.i64 (n23 * (8192 : Int))) (IntKind.wrap IntKind.i64 ((1023 : Int) - n34)) x2 true)]) 0) b1 false) (IntKind.wrap IntKind.i64 (n8 - (1 : Int))) n35 n36 (l2 ++ [(PageMap.mk (IntKind.wrap IntKind.i64 (n23 * (8192 : Int))) (IntKind.wrap IntKind.i64 ((1023 : Int) - n34)) x2 true)]))
 none))
 (cond (Go.Eng.roomOk ((List.length l2) + (List.length [(PageMap.mk (IntKind.wrap IntKind.i64 (n23 * (8192 : Int))) (IntKind.wrap IntKind.i64 ((32 : Int) * n26)) x2 true)])) 32)
 (ag (cond (Nat.beq (List.length [(PageMap.mk (IntKind.wrap IntKind.i64 (n23 * (8192 : Int))) (IntKind.wrap IntKind.i64 ((32 : Int) * n26)) x2 true)]) 0) b1 false) (IntKind.wrap IntKind.i64 (n8 - (1 : Int))) n32 n33 (l2 ++ [(PageMap.mk (IntKind.wrap IntKind.i64 (n23 * (8192 : Int))) (IntKind.wrap IntKind.i64 ((32 : Int) * n26)) x2 true)]))
 none))))
 none))))
 (g_spec_l01Src_one_Wr N (20 : Int) b3 n21 n22 n11 l1 fun b6 n37 n38 =>
 (cond b6
 (g_spec_l01Src_n_Wr N (3 : Int) b3 n37 n38 n11 l1 fun n39 n40 n41 =>
 (cond (Go.Eng.roomOk ((List.length l2) + (List.length [(PageMap.mk (IntKind.wrap IntKind.i64 (x * (256 : Int))) (IntKind.wrap IntKind.i64 ((1023 : Int) - n39)) x1 false)])) 32)
 (ag (cond (Nat.beq (List.length [(PageMap.mk (IntKind.wrap IntKind.i64 (x * (256 : Int))) (IntKind.wrap IntKind.i64 ((1023 : Int) - n39)) x1 false)]) 0) b1 false) (IntKind.wrap IntKind.i64 (n8 - (1 : Int))) n40 n41 (l2 ++ [(PageMap.mk (IntKind.wrap IntKind.i64 (x * (256 : Int))) (IntKind.wrap IntKind.i64 ((1023 : Int) - n39)) x1 false)]))
 none))
 (cond (Go.Eng.roomOk ((List.length l2) + (List.length [(PageMap.mk (IntKind.wrap IntKind.i64 (x * (256 : Int))) n15 x1 false)])) 32)
 (ag (cond (Nat.beq (List.length [(PageMap.mk (IntKind.wrap IntKind.i64 (x * (256 : Int))) n15 x1 false)]) 0) b1 false) (IntKind.wrap IntKind.i64 (n8 - (1 : Int))) n37 n38 (l2 ++ [(PageMap.mk (IntKind.wrap IntKind.i64 (x * (256 : Int))) n15 x1 false)]))
 none))))))
 none))))
 none))
 (kN b1 n9 n10 l2))
noncomputable def ga_s_spec_l01Src_maps_Wr_0 (N : Nat) (G_spec_l01Src_one_Wr : ∀ {R : Type} (n : Int) (b : Bool) (n1 : Int) (n2 : Int) (n3 : Int) (l : List Int) (k : Bool → Int → Int → Option R), Option R) (G_spec_l01Src_n_Wr : ∀ {R : Type} (n : Int) (b : Bool) (n1 : Int) (n2 : Int) (n3 : Int) (l : List Int) (k : Int → Int → Int → Option R), Option R) {R : Type} (n7 : Int) (b2 : Bool) (b3 : Bool) (n11 : Int) (l1 : List Int) (l3 : List Int) (b1 : Bool) (n8 : Int) (n9 : Int) (n10 : Int) (l2 : List PageMap) (ag : Bool → Int → Int → Int → (List PageMap) → Option R)  (kN : Bool → Int → Int → (List PageMap) → Option R) : Option R :=
 (cond (decide ((n8 > (0 : Int))))
 (G_spec_l01Src_n_Wr (8 : Int) b3 n9 n10 n11 l1 fun n12 n13 n14 =>
 (cond ((decide (((0 : Int) ≤ n12))) && (decide ((n12 < (8 : Int)))))
 (elemK [(0 : Int), (1 : Int), (2 : Int), (31 : Int), (32 : Int), (33 : Int), (64 : Int), (1023 : Int)] (Int.toNat n12) fun x =>
 (G_spec_l01Src_n_Wr n7 b3 n13 n14 n11 l1 fun n15 n16 n17 =>
 (G_spec_l01Src_n_Wr (6 : Int) b3 n16 n17 n11 l1 fun n18 n19 n20 =>
 (cond ((decide (((0 : Int) ≤ n18))) && (decide ((n18 < (((List.length l3) : Nat) : Int)))))
 (elemK l3 (Int.toNat n18) fun x1 =>
 (G_spec_l01Src_one_Wr (5 : Int) b3 n19 n20 n11 l1 fun b4 n21 n22 =>
 (cond b4
 (G_spec_l01Src_n_Wr (4 : Int) b3 n21 n22 n11 l1 fun n23 n24 n25 =>
 (G_spec_l01Src_n_Wr (2 : Int) b3 n24 n25 n11 l1 fun n26 n27 n28 =>
 (G_spec_l01Src_n_Wr (6 : Int) b3 n27 n28 n11 l1 fun n29 n30 n31 =>
 (cond ((decide (((0 : Int) ≤ n29))) && (decide ((n29 < (((List.length l3) : Nat) : Int)))))
 (elemK l3 (Int.toNat n29) fun x2 =>
 (G_spec_l01Src_one_Wr (20 : Int) b3 n30 n31 n11 l1 fun b5 n32 n33 =>
 (cond b5
 (G_spec_l01Src_n_Wr (3 : Int) b3 n32 n33 n11 l1 fun n34 n35 n36 =>
 (cond (Go.Eng.roomOk ((List.length l2) + (List.length [(PageMap.mk (IntKind.wrap IntKind.i64 (n23 * (8192 : Int))) (IntKind.wrap IntKind.i64 ((1023 : Int) - n34)) x2 true)])) 32)
 (ag (cond (Nat.beq (List.length [(PageMap.mk (IntKind.wrap IntKind.i64 (n23 * (8192 : Int))) (IntKind.wrap IntKind.i64 ((1023 : Int) - n34)) x2 true)]) 0) b1 false) (IntKind.wrap IntKind.i64 (n8 - (1 : Int))) n35 n36 (l2 ++ [(PageMap.mk (IntKind.wrap IntKind.i64 (n23 * (8192 : Int))) (IntKind.wrap IntKind.i64 ((1023 : Int) - n34)) x2 true)]))
 none))
 (cond (Go.Eng.roomOk ((List.length l2) + (List.length [(PageMap.mk (IntKind.wrap IntKind.i64 (n23 * (8192 : Int))) (IntKind.wrap IntKind.i64 ((32 : Int) * n26)) x2 true)])) 32)
 (ag (cond (Nat.beq (List.length [(PageMap.mk (IntKind.wrap IntKind.i64 (n23 * (8192 : Int))) (IntKind.wrap IntKind.i64 ((32 : Int) * n26)) x2 true)]) 0) b1 false) (IntKind.wrap IntKind.i64 (n8 - (1 : Int))) n32 n33 (l2 ++ [(PageMap.mk (IntKind.wrap IntKind.i64 (n23 * (8192 : Int))) (IntKind.wrap IntKind.i64 ((32 : Int) * n26)) x2 true)]))
 none))))
 none))))
 (G_spec_l01Src_one_Wr (20 : Int) b3 n21 n22 n11 l1 fun b6 n37 n38 =>
 (cond b6
 (G_spec_l01Src_n_Wr (3 : Int) b3 n37 n38 n11 l1 fun n39 n40 n41 =>
 (cond (Go.Eng.roomOk ((List.length l2) + (List.length [(PageMap.mk (IntKind.wrap IntKind.i64 (x * (256 : Int))) (IntKind.wrap IntKind.i64 ((1023 : Int) - n39)) x1 false)])) 32)
 (ag (cond (Nat.beq (List.length [(PageMap.mk (IntKind.wrap IntKind.i64 (x * (256 : Int))) (IntKind.wrap IntKind.i64 ((1023 : Int) - n39)) x1 false)]) 0) b1 false) (IntKind.wrap IntKind.i64 (n8 - (1 : Int))) n40 n41 (l2 ++ [(PageMap.mk (IntKind.wrap IntKind.i64 (x * (256 : Int))) (IntKind.wrap IntKind.i64 ((1023 : Int) - n39)) x1 false)]))
 none))
 (cond (Go.Eng.roomOk ((List.length l2) + (List.length [(PageMap.mk (IntKind.wrap IntKind.i64 (x * (256 : Int))) n15 x1 false)])) 32)
 (ag (cond (Nat.beq (List.length [(PageMap.mk (IntKind.wrap IntKind.i64 (x * (256 : Int))) n15 x1 false)]) 0) b1 false) (IntKind.wrap IntKind.i64 (n8 - (1 : Int))) n37 n38 (l2 ++ [(PageMap.mk (IntKind.wrap IntKind.i64 (x * (256 : Int))) n15 x1 false)]))
 none))))))
 none))))
 none))
 (kN b1 n9 n10 l2))
noncomputable def l_spec_l01Src_maps_Wr_0 (N : Nat) {R : Type} (n7 : Int) (b2 : Bool) (b3 : Bool) (n11 : Int) (l1 : List Int) (l3 : List Int) (kN : Bool → Int → Int → (List PageMap) → Option R) : Nat → Bool → Int → Int → Int → (List PageMap) → Option R
 | 0, _, _, _, _, _ => none
 | f + 1, b1, n8, n9, n10, l2 => s_spec_l01Src_maps_Wr_0 N n7 b2 b3 n11 l1 l3 b1 n8 n9 n10 l2 (fun b1 n8 n9 n10 l2 => l_spec_l01Src_maps_Wr_0 N n7 b2 b3 n11 l1 l3 kN f b1 n8 n9 n10 l2)  kN
noncomputable def c_spec_l01Src_maps_Wr_0 (N : Nat) {R : Type} (n7 : Int) (b2 : Bool) (b3 : Bool) (n11 : Int) (l1 : List Int) (l3 : List Int) (b1 : Bool) (n8 : Int) (n9 : Int) (n10 : Int) (l2 : List PageMap) (kN : Bool → Int → Int → (List PageMap) → Option R) : Option R := l_spec_l01Src_maps_Wr_0 N n7 b2 b3 n11 l1 l3 kN N b1 n8 n9 n10 l2
theorem ea_se_spec_l01Src_maps_Wr_0 (N : Nat) (G_spec_l01Src_one_Wr : ∀ {R : Type} (n : Int) (b : Bool) (n1 : Int) (n2 : Int) (n3 : Int) (l : List Int) (k : Bool → Int → Int → Option R), Option R) (G_spec_l01Src_n_Wr : ∀ {R : Type} (n : Int) (b : Bool) (n1 : Int) (n2 : Int) (n3 : Int) (l : List Int) (k : Int → Int → Int → Option R), Option R) {R : Type} (n7 : Int) (b2 : Bool) (b3 : Bool) (n11 : Int) (l1 : List Int) (l3 : List Int) (b1 : Bool) (n8 : Int) (n9 : Int) (n10 : Int) (l2 : List PageMap) (AG : List (Option AV) → Hp E → Option R) (KL : Ex → List (Option AV) → Hp E → Option R) :
    iterStep (E := E) (OA_spec_l01Src_maps_Wr N G_spec_l01Src_one_Wr G_spec_l01Src_n_Wr) (fun {R} => LI (noIt) 2 58 sl_spec_l01Src_maps_Wr (R := R)) J_spec_l01Src_maps_Wr 2 58 0 [0, 1, 5, 6, 7] [5] (body Try.f53 0) AG KL [(some (AV.sc (SV.ptr 0 0 0))), (some (AV.sc (SV.int IntKind.i64 n7))), (some (AV.sc (SV.slc 2 none b1))), (some (AV.sc (SV.slc 3 none b2))), (some (AV.sc (SV.int IntKind.i64 n8)))] [(some (HE.mk false (HB.exp none [(SV.slc 1 none b3), (SV.int IntKind.i64 n9), (SV.int IntKind.u64 n10), (SV.int IntKind.i64 n11)]))), (some (HE.mk true (HB.rows (B.u8 l1)))), (some (HE.mk false (HB.rows (B.iPageMap l2)))), (some (HE.mk false (HB.rows (B.i64 l3))))] =
      ga_s_spec_l01Src_maps_Wr_0 N G_spec_l01Src_one_Wr G_spec_l01Src_n_Wr n7 b2 b3 n11 l1 l3 b1 n8 n9 n10 l2 (fun b1 n8 n9 n10 l2 => AG [(some (AV.sc (SV.ptr 0 0 0))), (some (AV.sc (SV.int IntKind.i64 n7))), (some (AV.sc (SV.slc 2 none b1))), (some (AV.sc (SV.slc 3 none b2))), (some (AV.sc (SV.int IntKind.i64 n8)))] [(some (HE.mk false (HB.exp none [(SV.slc 1 none b3), (SV.int IntKind.i64 n9), (SV.int IntKind.u64 n10), (SV.int IntKind.i64 n11)]))), (some (HE.mk true (HB.rows (B.u8 l1)))), (some (HE.mk false (HB.rows (B.iPageMap l2)))), (some (HE.mk false (HB.rows (B.i64 l3))))])  (fun b9 n46 n47 l6 => KL Ex.normal [(some (AV.sc (SV.slc 2 none b9)))] [(some (HE.mk false (HB.exp none [(SV.slc 1 none b3), (SV.int IntKind.i64 n46), (SV.int IntKind.u64 n47), (SV.int IntKind.i64 n11)]))), (some (HE.mk true (HB.rows (B.u8 l1)))), (some (HE.mk false (HB.rows (B.iPageMap l6))))]) := by kernel_rfl
theorem se_spec_l01Src_maps_Wr_0 (N : Nat) {R : Type} (n7 : Int) (b2 : Bool) (b3 : Bool) (n11 : Int) (l1 : List Int) (l3 : List Int) (b1 : Bool) (n8 : Int) (n9 : Int) (n10 : Int) (l2 : List PageMap) (AG : List (Option AV) → Hp E → Option R) (KL : Ex → List (Option AV) → Hp E → Option R) :
    iterStep (E := E) (O_spec_l01Src_maps_Wr N) (fun {R} => LI (noIt) 2 58 sl_spec_l01Src_maps_Wr (R := R)) J_spec_l01Src_maps_Wr 2 58 0 [0, 1, 5, 6, 7] [5] (body Try.f53 0) AG KL [(some (AV.sc (SV.ptr 0 0 0))), (some (AV.sc (SV.int IntKind.i64 n7))), (some (AV.sc (SV.slc 2 none b1))), (some (AV.sc (SV.slc 3 none b2))), (some (AV.sc (SV.int IntKind.i64 n8)))] [(some (HE.mk false (HB.exp none [(SV.slc 1 none b3), (SV.int IntKind.i64 n9), (SV.int IntKind.u64 n10), (SV.int IntKind.i64 n11)]))), (some (HE.mk true (HB.rows (B.u8 l1)))), (some (HE.mk false (HB.rows (B.iPageMap l2)))), (some (HE.mk false (HB.rows (B.i64 l3))))] =
      s_spec_l01Src_maps_Wr_0 N n7 b2 b3 n11 l1 l3 b1 n8 n9 n10 l2 (fun b1 n8 n9 n10 l2 => AG [(some (AV.sc (SV.ptr 0 0 0))), (some (AV.sc (SV.int IntKind.i64 n7))), (some (AV.sc (SV.slc 2 none b1))), (some (AV.sc (SV.slc 3 none b2))), (some (AV.sc (SV.int IntKind.i64 n8)))] [(some (HE.mk false (HB.exp none [(SV.slc 1 none b3), (SV.int IntKind.i64 n9), (SV.int IntKind.u64 n10), (SV.int IntKind.i64 n11)]))), (some (HE.mk true (HB.rows (B.u8 l1)))), (some (HE.mk false (HB.rows (B.iPageMap l2)))), (some (HE.mk false (HB.rows (B.i64 l3))))])  (fun b9 n46 n47 l6 => KL Ex.normal [(some (AV.sc (SV.slc 2 none b9)))] [(some (HE.mk false (HB.exp none [(SV.slc 1 none b3), (SV.int IntKind.i64 n46), (SV.int IntKind.u64 n47), (SV.int IntKind.i64 n11)]))), (some (HE.mk true (HB.rows (B.u8 l1)))), (some (HE.mk false (HB.rows (B.iPageMap l6))))]) := castPr (by kernel_rfl) (ea_se_spec_l01Src_maps_Wr_0 N (g_spec_l01Src_one_Wr N) (g_spec_l01Src_n_Wr N) n7 b2 b3 n11 l1 l3 b1 n8 n9 n10 l2 AG KL)
theorem le_spec_l01Src_maps_Wr_0 (N : Nat) {R : Type} (n7 : Int) (b2 : Bool) (b3 : Bool) (n11 : Int) (l1 : List Int) (l3 : List Int) (KL : Ex → List (Option AV) → Hp E → Option R) : ∀ (f : Nat), ∀ (b1 : Bool) (n8 : Int) (n9 : Int) (n10 : Int) (l2 : List PageMap), iterK (E := E) (O_spec_l01Src_maps_Wr N) (fun {R} => LI (noIt) 2 58 sl_spec_l01Src_maps_Wr (R := R)) J_spec_l01Src_maps_Wr 2 58 0 [0, 1, 5, 6, 7] [5] (body Try.f53 0) f [(some (AV.sc (SV.ptr 0 0 0))), (some (AV.sc (SV.int IntKind.i64 n7))), (some (AV.sc (SV.slc 2 none b1))), (some (AV.sc (SV.slc 3 none b2))), (some (AV.sc (SV.int IntKind.i64 n8)))] [(some (HE.mk false (HB.exp none [(SV.slc 1 none b3), (SV.int IntKind.i64 n9), (SV.int IntKind.u64 n10), (SV.int IntKind.i64 n11)]))), (some (HE.mk true (HB.rows (B.u8 l1)))), (some (HE.mk false (HB.rows (B.iPageMap l2)))), (some (HE.mk false (HB.rows (B.i64 l3))))] KL = l_spec_l01Src_maps_Wr_0 N n7 b2 b3 n11 l1 l3 (fun b9 n46 n47 l6 => KL Ex.normal [(some (AV.sc (SV.slc 2 none b9)))] [(some (HE.mk false (HB.exp none [(SV.slc 1 none b3), (SV.int IntKind.i64 n46), (SV.int IntKind.u64 n47), (SV.int IntKind.i64 n11)]))), (some (HE.mk true (HB.rows (B.u8 l1)))), (some (HE.mk false (HB.rows (B.iPageMap l6))))]) f b1 n8 n9 n10 l2 := by
  intro f
  induction f with
  | zero => intros; rfl
  | succ f ih =>
    intro b1 n8 n9 n10 l2
    rw [iterK_succ, se_spec_l01Src_maps_Wr_0]
    exact (congrArg (fun z0 => s_spec_l01Src_maps_Wr_0 N n7 b2 b3 n11 l1 l3 b1 n8 n9 n10 l2 z0 (fun b9 n46 n47 l6 => KL Ex.normal [(some (AV.sc (SV.slc 2 none b9)))] [(some (HE.mk false (HB.exp none [(SV.slc 1 none b3), (SV.int IntKind.i64 n46), (SV.int IntKind.u64 n47), (SV.int IntKind.i64 n11)]))), (some (HE.mk true (HB.rows (B.u8 l1)))), (some (HE.mk false (HB.rows (B.iPageMap l6))))])) (funext fun b1 => funext fun n8 => funext fun n9 => funext fun n10 => funext fun l2 => ih b1 n8 n9 n10 l2))
noncomputable def i_spec_l01Src_maps_Wr_0 (N : Nat) {R : Type} (vs : List (Option AV)) (H : Hp E) (KL : Ex → List (Option AV) → Hp E → Option R) : Option R :=
 match vs, H with
 | [(some (AV.sc (SV.ptr 0 0 0))), (some (AV.sc (SV.int IntKind.i64 n7))), (some (AV.sc (SV.slc 2 none b1))), (some (AV.sc (SV.slc 3 none b2))), (some (AV.sc (SV.int IntKind.i64 n8)))], [(some (HE.mk false (HB.exp none [(SV.slc 1 none b3), (SV.int IntKind.i64 n9), (SV.int IntKind.u64 n10), (SV.int IntKind.i64 n11)]))), (some (HE.mk true (HB.rows (B.u8 l1)))), (some (HE.mk false (HB.rows (B.iPageMap l2)))), (some (HE.mk false (HB.rows (B.i64 l3))))] => c_spec_l01Src_maps_Wr_0 N n7 b2 b3 n11 l1 l3 b1 n8 n9 n10 l2 (fun b10 n48 n49 l7 => KL Ex.normal [(some (AV.sc (SV.slc 2 none b10)))] [(some (HE.mk false (HB.exp none [(SV.slc 1 none b3), (SV.int IntKind.i64 n48), (SV.int IntKind.u64 n49), (SV.int IntKind.i64 n11)]))), (some (HE.mk true (HB.rows (B.u8 l1)))), (some (HE.mk false (HB.rows (B.iPageMap l7))))])
 | _, _ => none
noncomputable def IT_spec_l01Src_maps_Wr_0 (N : Nat) : Its E := addIt 0 (i_spec_l01Src_maps_Wr_0 N) (noIt)
theorem IT_spec_l01Src_maps_Wr_0_ok (N : Nat) : ItOk (IT_spec_l01Src_maps_Wr_0 N) 2 58 sl_spec_l01Src_maps_Wr (lsB Try.f53 [0]) :=
  addItB_ok (inner := []) ok (O_spec_l01Src_maps_Wr_ok N) (jn_ok _ _ _) (noIt_ok) rfl (by kernel_rfl) rfl fun vs H KL r h => by
    unfold i_spec_l01Src_maps_Wr_0 at h
    split at h
    · exact ⟨_, (le_spec_l01Src_maps_Wr_0 N _ _ _ _ _ _ KL N _ _ _ _ _).trans h⟩
    · cases h
noncomputable def g_spec_l01Src_maps_Wr (N : Nat) {R : Type} (n : Int) (b : Bool) (n1 : Int) (n2 : Int) (n3 : Int) (l : List Int) (k : Bool → Int → Int → (List PageMap) → Option R) : Option R :=
 (g_spec_l01Src_n_Wr N (7 : Int) b n1 n2 n3 l fun n4 n5 n6 =>
 (c_spec_l01Src_maps_Wr_0 N n false b n3 l [(2 : Int), (6 : Int), (10 : Int), (22 : Int), (26 : Int), (158 : Int)] false (IntKind.wrap IntKind.i64 ((1 : Int) + n4)) n5 n6 [] fun b7 n42 n43 l4 =>
 (k b7 n42 n43 l4)))
noncomputable def ga_g_spec_l01Src_maps_Wr (N : Nat) (G_spec_l01Src_one_Wr : ∀ {R : Type} (n : Int) (b : Bool) (n1 : Int) (n2 : Int) (n3 : Int) (l : List Int) (k : Bool → Int → Int → Option R), Option R) (G_spec_l01Src_n_Wr : ∀ {R : Type} (n : Int) (b : Bool) (n1 : Int) (n2 : Int) (n3 : Int) (l : List Int) (k : Int → Int → Int → Option R), Option R) {R : Type} (n : Int) (b : Bool) (n1 : Int) (n2 : Int) (n3 : Int) (l : List Int) (k : Bool → Int → Int → (List PageMap) → Option R) : Option R :=
 (G_spec_l01Src_n_Wr (7 : Int) b n1 n2 n3 l fun n4 n5 n6 =>
 (c_spec_l01Src_maps_Wr_0 N n false b n3 l [(2 : Int), (6 : Int), (10 : Int), (22 : Int), (26 : Int), (158 : Int)] false (IntKind.wrap IntKind.i64 ((1 : Int) + n4)) n5 n6 [] fun b7 n42 n43 l4 =>
 (k b7 n42 n43 l4)))
theorem ea_e_spec_l01Src_maps_Wr (N : Nat) (G_spec_l01Src_one_Wr : ∀ {R : Type} (n : Int) (b : Bool) (n1 : Int) (n2 : Int) (n3 : Int) (l : List Int) (k : Bool → Int → Int → Option R), Option R) (G_spec_l01Src_n_Wr : ∀ {R : Type} (n : Int) (b : Bool) (n1 : Int) (n2 : Int) (n3 : Int) (l : List Int) (k : Int → Int → Int → Option R), Option R) {R : Type} (n : Int) (b : Bool) (n1 : Int) (n2 : Int) (n3 : Int) (l : List Int) (K : AV → Hp E → Option R) :
    runFnI (E := E) (OA_spec_l01Src_maps_Wr N G_spec_l01Src_one_Wr G_spec_l01Src_n_Wr) (IT_spec_l01Src_maps_Wr_0 N) sl_spec_l01Src_maps_Wr J_spec_l01Src_maps_Wr Try.f53 [(AV.sc (SV.ptr 0 0 0)), (AV.sc (SV.int IntKind.i64 n))] [(some (HE.mk false (HB.exp none [(SV.slc 1 none b), (SV.int IntKind.i64 n1), (SV.int IntKind.u64 n2), (SV.int IntKind.i64 n3)]))), (some (HE.mk true (HB.rows (B.u8 l))))] K =
      ga_g_spec_l01Src_maps_Wr N G_spec_l01Src_one_Wr G_spec_l01Src_n_Wr n b n1 n2 n3 l (fun b8 n44 n45 l5 => K (AV.sc (SV.slc 2 none b8)) [(some (HE.mk false (HB.exp none [(SV.slc 1 none b), (SV.int IntKind.i64 n44), (SV.int IntKind.u64 n45), (SV.int IntKind.i64 n3)]))), (some (HE.mk true (HB.rows (B.u8 l)))), (some (HE.mk false (HB.rows (B.iPageMap l5))))]) := by kernel_rfl
theorem e_spec_l01Src_maps_Wr (N : Nat) {R : Type} (n : Int) (b : Bool) (n1 : Int) (n2 : Int) (n3 : Int) (l : List Int) (K : AV → Hp E → Option R) :
    runFnI (E := E) (O_spec_l01Src_maps_Wr N) (IT_spec_l01Src_maps_Wr_0 N) sl_spec_l01Src_maps_Wr J_spec_l01Src_maps_Wr Try.f53 [(AV.sc (SV.ptr 0 0 0)), (AV.sc (SV.int IntKind.i64 n))] [(some (HE.mk false (HB.exp none [(SV.slc 1 none b), (SV.int IntKind.i64 n1), (SV.int IntKind.u64 n2), (SV.int IntKind.i64 n3)]))), (some (HE.mk true (HB.rows (B.u8 l))))] K =
      g_spec_l01Src_maps_Wr N n b n1 n2 n3 l (fun b8 n44 n45 l5 => K (AV.sc (SV.slc 2 none b8)) [(some (HE.mk false (HB.exp none [(SV.slc 1 none b), (SV.int IntKind.i64 n44), (SV.int IntKind.u64 n45), (SV.int IntKind.i64 n3)]))), (some (HE.mk true (HB.rows (B.u8 l)))), (some (HE.mk false (HB.rows (B.iPageMap l5))))]) := castPr (by kernel_rfl) (ea_e_spec_l01Src_maps_Wr N (g_spec_l01Src_one_Wr N) (g_spec_l01Src_n_Wr N) n b n1 n2 n3 l K)
noncomputable def o_spec_l01Src_maps_Wr (N : Nat) {R : Type} (args : List AV) (H : Hp E) (K : AV → Hp E → Option R) : Option R :=
 match args, H with
 | [(AV.sc (SV.ptr 0 0 0)), (AV.sc (SV.int IntKind.i64 n))], [(some (HE.mk false (HB.exp none [(SV.slc 1 none b), (SV.int IntKind.i64 n1), (SV.int IntKind.u64 n2), (SV.int IntKind.i64 n3)]))), (some (HE.mk true (HB.rows (B.u8 l))))] => g_spec_l01Src_maps_Wr N n b n1 n2 n3 l (fun b8 n44 n45 l5 => K (AV.sc (SV.slc 2 none b8)) [(some (HE.mk false (HB.exp none [(SV.slc 1 none b), (SV.int IntKind.i64 n44), (SV.int IntKind.u64 n45), (SV.int IntKind.i64 n3)]))), (some (HE.mk true (HB.rows (B.u8 l)))), (some (HE.mk false (HB.rows (B.iPageMap l5))))])
 | _, _ => none
theorem o_spec_l01Src_maps_Wr_ok (N : Nat) : FnOk E 53 (o_spec_l01Src_maps_Wr N) := by
  intro R args H K r h
  unfold o_spec_l01Src_maps_Wr at h
  dsimp only at h
  split at h
  · exact fnB_ok (ids := [0]) (top := [0]) ok (O_spec_l01Src_maps_Wr_ok N) (jn_ok _ _ _) Try.func53 (by kernel_rfl) (IT := IT_spec_l01Src_maps_Wr_0 N) (sl := sl_spec_l01Src_maps_Wr) (J := J_spec_l01Src_maps_Wr) (K := K) (H := [(some (HE.mk false (HB.exp none [(SV.slc 1 none _), (SV.int IntKind.i64 _), (SV.int IntKind.u64 _), (SV.int IntKind.i64 _)]))), (some (HE.mk true (HB.rows (B.u8 _))))]) (IT_spec_l01Src_maps_Wr_0_ok N) (by kernel_rfl) rfl ((e_spec_l01Src_maps_Wr N _ _ _ _ _ _ K).trans h)
  · cases h
/-! ### loop.example/g00038/spec.MemFault -/
abbrev sl_spec_MemFault : SlotT := []
abbrev J_spec_MemFault : JT := jn [(1, [(16, .b)])] [] []
noncomputable def O_spec_MemFault (N : Nat) : Orc E := noFn
theorem O_spec_MemFault_ok (N : Nat) : OrcOk (O_spec_MemFault N) := noFn_ok
noncomputable def g_spec_MemFault (N : Nat) {R : Type} (s : ByteArray) (k : Int → Option R) : Option R :=
 (oK (cond ((((ByteArray.size s) : Nat) : Int) == (0 : Int))
 (some true)
 (cond ((Int.tmod (((ByteArray.size s) : Nat) : Int) (256 : Int)) != (0 : Int))
 (some true)
 (some (decide (((((ByteArray.size s) : Nat) : Int) > (65536 : Int))))))) fun j =>
 (cond j
 (k (1 : Int))
 (k (0 : Int))))
theorem e_spec_MemFault (N : Nat) {R : Type} (s : ByteArray) (K : AV → Hp E → Option R) :
    runFnI (E := E) (O_spec_MemFault N) (noIt) sl_spec_MemFault J_spec_MemFault Try.f10 [(AV.sc (SV.str s))] [] K =
      g_spec_MemFault N s (fun n => K (AV.sc (SV.int IntKind.i64 n)) []) := by kernel_rfl
noncomputable def o_spec_MemFault (N : Nat) {R : Type} (args : List AV) (H : Hp E) (K : AV → Hp E → Option R) : Option R :=
 match args, H with
 | [(AV.sc (SV.str s))], [] => g_spec_MemFault N s (fun n => K (AV.sc (SV.int IntKind.i64 n)) [])
 | _, _ => none
theorem o_spec_MemFault_ok (N : Nat) : FnOk E 10 (o_spec_MemFault N) := by
  intro R args H K r h
  unfold o_spec_MemFault at h
  dsimp only at h
  split at h
  · exact fnB_ok (ids := []) (top := []) ok (O_spec_MemFault_ok N) (jn_ok _ _ _) Try.func10 (by kernel_rfl) (IT := noIt) (sl := sl_spec_MemFault) (J := J_spec_MemFault) (K := K) (H := []) (noIt_ok) (by kernel_rfl) rfl ((e_spec_MemFault N _ K).trans h)
  · cases h
/-! ### loop.example/g00038/spec.l03In -/
abbrev sl_spec_l03In : SlotT := []
abbrev J_spec_l03In : JT := jn [(1, [(4, .b)])] [] []
noncomputable def O_spec_l03In (N : Nat) : Orc E := noFn
theorem O_spec_l03In_ok (N : Nat) : OrcOk (O_spec_l03In N) := noFn_ok
noncomputable def g_spec_l03In (N : Nat) {R : Type} (s : ByteArray) (n : Int) (k : Bool → Option R) : Option R :=
 (oK (cond (decide ((n ≥ (0 : Int))))
 (some (decide ((n < (IntKind.wrap IntKind.i64 (Int.tdiv (((ByteArray.size s) : Nat) : Int) (256 : Int)))))))
 (some false)) fun j =>
 (k j))
theorem e_spec_l03In (N : Nat) {R : Type} (s : ByteArray) (n : Int) (K : AV → Hp E → Option R) :
    runFnI (E := E) (O_spec_l03In N) (noIt) sl_spec_l03In J_spec_l03In Try.f39 [(AV.sc (SV.str s)), (AV.sc (SV.int IntKind.i64 n))] [] K =
      g_spec_l03In N s n (fun b => K (AV.sc (SV.bool b)) []) := by kernel_rfl
noncomputable def o_spec_l03In (N : Nat) {R : Type} (args : List AV) (H : Hp E) (K : AV → Hp E → Option R) : Option R :=
 match args, H with
 | [(AV.sc (SV.str s)), (AV.sc (SV.int IntKind.i64 n))], [] => g_spec_l03In N s n (fun b => K (AV.sc (SV.bool b)) [])
 | _, _ => none
theorem o_spec_l03In_ok (N : Nat) : FnOk E 39 (o_spec_l03In N) := by
  intro R args H K r h
  unfold o_spec_l03In at h
  dsimp only at h
  split at h
  · exact fnB_ok (ids := []) (top := []) ok (O_spec_l03In_ok N) (jn_ok _ _ _) Try.func39 (by kernel_rfl) (IT := noIt) (sl := sl_spec_l03In) (J := J_spec_l03In) (K := K) (H := []) (noIt_ok) (by kernel_rfl) rfl ((e_spec_l03In N _ _ K).trans h)
  · cases h
end Go.Sa
