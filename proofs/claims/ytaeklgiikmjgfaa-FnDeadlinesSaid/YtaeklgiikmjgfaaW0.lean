import Derived.Test.YtaeklgiikmjgfaaSpec
import Derived.Test.YtaeklgiikmjgfaaPLb
set_option linter.all false
namespace Go.Sa
open Go Go.Eng Go.Proofs
set_option maxRecDepth 100000
set_option maxHeartbeats 4000000
theorem castPr {p q : Prop} (e : p = q) (h : p) : q := e ▸ h
/-! ### loop.example/g00038/spec.l01Source -/
abbrev sl_spec_l01Source_r : SlotT := [(0, ([0, 3, 4], [0, 3]))]
abbrev J_spec_l01Source_r : JT := jn [(3, [(15, .b)])] [] []
noncomputable def O_spec_l01Source_r (N : Nat) : Orc E := noFn
theorem O_spec_l01Source_r_ok (N : Nat) : OrcOk (O_spec_l01Source_r N) := noFn_ok
noncomputable def s_spec_l01Source_r_0 (N : Nat) {R : Type} (b1 : Bool) (l1 : List Int) (b2 : Bool) (n1 : Int) (n3 : Int) (n : Int) (n2 : Int) (ag : Int → Int → Option R)  (kN : Int → Option R) : Option R :=
 (oK (cond (decide ((n < (((List.length l1) : Nat) : Int))))
 (some (decide ((n < (64 : Int)))))
 (some false)) fun j =>
 (cond j
 (cond ((decide (((0 : Int) ≤ n))) && (decide ((n < (((List.length l1) : Nat) : Int)))))
 (elemK l1 (Int.toNat n) fun x =>
 (ag (IntKind.wrap IntKind.i64 (n + (1 : Int))) (IntKind.wrap IntKind.u64 ((IntKind.wrap IntKind.u64 (((BitVec.toNat ((BitVec.ofInt 64 n2) ^^^ (BitVec.ofInt 64 (IntKind.wrap IntKind.u64 x)))) : Nat) : Int)) * (1099511628211 : Int)))))
 none)
 (kN n2)))
noncomputable def l_spec_l01Source_r_0 (N : Nat) {R : Type} (b1 : Bool) (l1 : List Int) (b2 : Bool) (n1 : Int) (n3 : Int) (kN : Int → Option R) : Nat → Int → Int → Option R
 | 0, _, _ => none
 | f + 1, n, n2 => s_spec_l01Source_r_0 N b1 l1 b2 n1 n3 n n2 (fun n n2 => l_spec_l01Source_r_0 N b1 l1 b2 n1 n3 kN f n n2)  kN
noncomputable def c_spec_l01Source_r_0 (N : Nat) {R : Type} (b1 : Bool) (l1 : List Int) (b2 : Bool) (n1 : Int) (n3 : Int) (n : Int) (n2 : Int) (kN : Int → Option R) : Option R := l_spec_l01Source_r_0 N b1 l1 b2 n1 n3 kN N n n2
theorem se_spec_l01Source_r_0 (N : Nat) {R : Type} (b1 : Bool) (l1 : List Int) (b2 : Bool) (n1 : Int) (n3 : Int) (n : Int) (n2 : Int) (AG : List (Option AV) → Hp E → Option R) (KL : Ex → List (Option AV) → Hp E → Option R) :
    iterStep (E := E) (O_spec_l01Source_r N) (fun {R} => LI (noIt) 1 46 sl_spec_l01Source_r (R := R)) J_spec_l01Source_r 1 46 0 [0, 3, 4] [0, 3] (body Try.f16 0) AG KL [(some (AV.sc (SV.slc 0 none b1))), (some (AV.sc (SV.ptr 1 0 0))), (some (AV.sc (SV.int IntKind.i64 n)))] [(some (HE.mk true (HB.rows (B.u8 l1)))), (some (HE.mk false (HB.exp none [(SV.slc 0 none b2), (SV.int IntKind.i64 n1), (SV.int IntKind.u64 n2), (SV.int IntKind.i64 n3)])))] =
      s_spec_l01Source_r_0 N b1 l1 b2 n1 n3 n n2 (fun n n2 => AG [(some (AV.sc (SV.slc 0 none b1))), (some (AV.sc (SV.ptr 1 0 0))), (some (AV.sc (SV.int IntKind.i64 n)))] [(some (HE.mk true (HB.rows (B.u8 l1)))), (some (HE.mk false (HB.exp none [(SV.slc 0 none b2), (SV.int IntKind.i64 n1), (SV.int IntKind.u64 n2), (SV.int IntKind.i64 n3)])))])  (fun n7 => KL Ex.normal [(some (AV.sc (SV.slc 0 none b1))), (some (AV.sc (SV.ptr 1 0 0)))] [(some (HE.mk true (HB.rows (B.u8 l1)))), (some (HE.mk false (HB.exp none [(SV.slc 0 none b2), (SV.int IntKind.i64 n1), (SV.int IntKind.u64 n7), (SV.int IntKind.i64 n3)])))]) := by kernel_rfl
theorem le_spec_l01Source_r_0 (N : Nat) {R : Type} (b1 : Bool) (l1 : List Int) (b2 : Bool) (n1 : Int) (n3 : Int) (KL : Ex → List (Option AV) → Hp E → Option R) : ∀ (f : Nat), ∀ (n : Int) (n2 : Int), iterK (E := E) (O_spec_l01Source_r N) (fun {R} => LI (noIt) 1 46 sl_spec_l01Source_r (R := R)) J_spec_l01Source_r 1 46 0 [0, 3, 4] [0, 3] (body Try.f16 0) f [(some (AV.sc (SV.slc 0 none b1))), (some (AV.sc (SV.ptr 1 0 0))), (some (AV.sc (SV.int IntKind.i64 n)))] [(some (HE.mk true (HB.rows (B.u8 l1)))), (some (HE.mk false (HB.exp none [(SV.slc 0 none b2), (SV.int IntKind.i64 n1), (SV.int IntKind.u64 n2), (SV.int IntKind.i64 n3)])))] KL = l_spec_l01Source_r_0 N b1 l1 b2 n1 n3 (fun n7 => KL Ex.normal [(some (AV.sc (SV.slc 0 none b1))), (some (AV.sc (SV.ptr 1 0 0)))] [(some (HE.mk true (HB.rows (B.u8 l1)))), (some (HE.mk false (HB.exp none [(SV.slc 0 none b2), (SV.int IntKind.i64 n1), (SV.int IntKind.u64 n7), (SV.int IntKind.i64 n3)])))]) f n n2 := by
  intro f
  induction f with
  | zero => intros; rfl
  | succ f ih =>
    intro n n2
    rw [iterK_succ, se_spec_l01Source_r_0]
    exact (congrArg (fun z0 => s_spec_l01Source_r_0 N b1 l1 b2 n1 n3 n n2 z0 (fun n7 => KL Ex.normal [(some (AV.sc (SV.slc 0 none b1))), (some (AV.sc (SV.ptr 1 0 0)))] [(some (HE.mk true (HB.rows (B.u8 l1)))), (some (HE.mk false (HB.exp none [(SV.slc 0 none b2), (SV.int IntKind.i64 n1), (SV.int IntKind.u64 n7), (SV.int IntKind.i64 n3)])))])) (funext fun n => funext fun n2 => ih n n2))
noncomputable def i_spec_l01Source_r_0 (N : Nat) {R : Type} (vs : List (Option AV)) (H : Hp E) (KL : Ex → List (Option AV) → Hp E → Option R) : Option R :=
 match vs, H with
 | [(some (AV.sc (SV.slc 0 none b1))), (some (AV.sc (SV.ptr 1 0 0))), (some (AV.sc (SV.int IntKind.i64 n)))], [(some (HE.mk true (HB.rows (B.u8 l1)))), (some (HE.mk false (HB.exp none [(SV.slc 0 none b2), (SV.int IntKind.i64 n1), (SV.int IntKind.u64 n2), (SV.int IntKind.i64 n3)])))] => c_spec_l01Source_r_0 N b1 l1 b2 n1 n3 n n2 (fun n8 => KL Ex.normal [(some (AV.sc (SV.slc 0 none b1))), (some (AV.sc (SV.ptr 1 0 0)))] [(some (HE.mk true (HB.rows (B.u8 l1)))), (some (HE.mk false (HB.exp none [(SV.slc 0 none b2), (SV.int IntKind.i64 n1), (SV.int IntKind.u64 n8), (SV.int IntKind.i64 n3)])))])
 | _, _ => none
noncomputable def IT_spec_l01Source_r_0 (N : Nat) : Its E := addIt 0 (i_spec_l01Source_r_0 N) (noIt)
theorem IT_spec_l01Source_r_0_ok (N : Nat) : ItOk (IT_spec_l01Source_r_0 N) 1 46 sl_spec_l01Source_r (lsB Try.f16 [0]) :=
  addItB_ok (inner := []) ok (O_spec_l01Source_r_ok N) (jn_ok _ _ _) (noIt_ok) rfl (by kernel_rfl) rfl fun vs H KL r h => by
    unfold i_spec_l01Source_r_0 at h
    split at h
    · exact ⟨_, (le_spec_l01Source_r_0 N _ _ _ _ _ KL N _ _).trans h⟩
    · cases h
noncomputable def g_spec_l01Source_r (N : Nat) {R : Type} (b : Bool) (l : List Int) (k : Int → Int → Option R) : Option R :=
 (c_spec_l01Source_r_0 N b l b (0 : Int) (0 : Int) (0 : Int) (88172645463325252 : Int) fun n4 =>
 (cond (decide (((((List.length l) : Nat) : Int) > (12 : Int))))
 (k n4 (12 : Int))
 (k n4 (((List.length l) : Nat) : Int))))
theorem e_spec_l01Source_r (N : Nat) {R : Type} (b : Bool) (l : List Int) (K : AV → Hp E → Option R) :
    runFnI (E := E) (O_spec_l01Source_r N) (IT_spec_l01Source_r_0 N) sl_spec_l01Source_r J_spec_l01Source_r Try.f16 [(AV.sc (SV.slc 0 none b))] [(some (HE.mk true (HB.rows (B.u8 l))))] K =
      g_spec_l01Source_r N b l (fun n5 n6 => K (AV.sc (SV.ptr 1 0 0)) [(some (HE.mk true (HB.rows (B.u8 l)))), (some (HE.mk false (HB.exp none [(SV.slc 0 none b), (SV.int IntKind.i64 (0 : Int)), (SV.int IntKind.u64 n5), (SV.int IntKind.i64 n6)])))]) := by kernel_rfl
noncomputable def o_spec_l01Source_r (N : Nat) {R : Type} (args : List AV) (H : Hp E) (K : AV → Hp E → Option R) : Option R :=
 match args, H with
 | [(AV.sc (SV.slc 0 none b))], [(some (HE.mk true (HB.rows (B.u8 l))))] => g_spec_l01Source_r N b l (fun n5 n6 => K (AV.sc (SV.ptr 1 0 0)) [(some (HE.mk true (HB.rows (B.u8 l)))), (some (HE.mk false (HB.exp none [(SV.slc 0 none b), (SV.int IntKind.i64 (0 : Int)), (SV.int IntKind.u64 n5), (SV.int IntKind.i64 n6)])))])
 | _, _ => none
theorem o_spec_l01Source_r_ok (N : Nat) : FnOk E 16 (o_spec_l01Source_r N) := by
  intro R args H K r h
  unfold o_spec_l01Source_r at h
  dsimp only at h
  split at h
  · exact fnB_ok (ids := [0]) (top := [0]) ok (O_spec_l01Source_r_ok N) (jn_ok _ _ _) Try.func16 (by kernel_rfl) (IT := IT_spec_l01Source_r_0 N) (sl := sl_spec_l01Source_r) (J := J_spec_l01Source_r) (K := K) (H := [(some (HE.mk true (HB.rows (B.u8 _))))]) (IT_spec_l01Source_r_0_ok N) (by kernel_rfl) rfl ((e_spec_l01Source_r N _ _ K).trans h)
  · cases h
/-! ### (*loop.example/g00038/spec.l01Src).n -/
abbrev sl_spec_l01Src_n_Wr : SlotT := []
abbrev J_spec_l01Src_n_Wr : JT := jn [] [] []
noncomputable def O_spec_l01Src_n_Wr (N : Nat) : Orc E := noFn
theorem O_spec_l01Src_n_Wr_ok (N : Nat) : OrcOk (O_spec_l01Src_n_Wr N) := noFn_ok
noncomputable def g_spec_l01Src_n_Wr (N : Nat) {R : Type} (n : Int) (b : Bool) (n1 : Int) (n2 : Int) (n3 : Int) (l : List Int) (k : Int → Int → Int → Option R) : Option R :=
 (cond (decide ((n ≤ (1 : Int))))
 (k (0 : Int) n1 n2)
 (cond (decide ((n1 < (((List.length l) : Nat) : Int))))
 (cond ((decide (((0 : Int) ≤ n1))) && (decide ((n1 < (((List.length l) : Nat) : Int)))))
 (elemK l (Int.toNat n1) fun x =>
 (cond ((IntKind.wrap IntKind.u64 n) == (0 : Int))
 none
 (k (IntKind.wrap IntKind.i64 (Int.tmod (IntKind.wrap IntKind.u64 ((IntKind.wrap IntKind.u64 x) + (Int.fdiv (IntKind.wrap IntKind.u64 (((BitVec.toNat ((BitVec.ofInt 64 (IntKind.wrap IntKind.u64 (((BitVec.toNat ((BitVec.ofInt 64 (IntKind.wrap IntKind.u64 (((BitVec.toNat ((BitVec.ofInt 64 n2) ^^^ (BitVec.ofInt 64 (IntKind.wrap IntKind.u64 (n2 * (8192 : Int)))))) : Nat) : Int))) ^^^ (BitVec.ofInt 64 (Int.fdiv (IntKind.wrap IntKind.u64 (((BitVec.toNat ((BitVec.ofInt 64 n2) ^^^ (BitVec.ofInt 64 (IntKind.wrap IntKind.u64 (n2 * (8192 : Int)))))) : Nat) : Int)) (128 : Int))))) : Nat) : Int))) ^^^ (BitVec.ofInt 64 (IntKind.wrap IntKind.u64 ((IntKind.wrap IntKind.u64 (((BitVec.toNat ((BitVec.ofInt 64 (IntKind.wrap IntKind.u64 (((BitVec.toNat ((BitVec.ofInt 64 n2) ^^^ (BitVec.ofInt 64 (IntKind.wrap IntKind.u64 (n2 * (8192 : Int)))))) : Nat) : Int))) ^^^ (BitVec.ofInt 64 (Int.fdiv (IntKind.wrap IntKind.u64 (((BitVec.toNat ((BitVec.ofInt 64 n2) ^^^ (BitVec.ofInt 64 (IntKind.wrap IntKind.u64 (n2 * (8192 : Int)))))) : Nat) : Int)) (128 : Int))))) : Nat) : Int)) * (131072 : Int)))))) : Nat) : Int)) (1048576 : Int)))) (IntKind.wrap IntKind.u64 n))) (IntKind.wrap IntKind.i64 (n1 + (1 : Int))) (IntKind.wrap IntKind.u64 (((BitVec.toNat ((BitVec.ofInt 64 (IntKind.wrap IntKind.u64 (((BitVec.toNat ((BitVec.ofInt 64 (IntKind.wrap IntKind.u64 (((BitVec.toNat ((BitVec.ofInt 64 n2) ^^^ (BitVec.ofInt 64 (IntKind.wrap IntKind.u64 (n2 * (8192 : Int)))))) : Nat) : Int))) ^^^ (BitVec.ofInt 64 (Int.fdiv (IntKind.wrap IntKind.u64 (((BitVec.toNat ((BitVec.ofInt 64 n2) ^^^ (BitVec.ofInt 64 (IntKind.wrap IntKind.u64 (n2 * (8192 : Int)))))) : Nat) : Int)) (128 : Int))))) : Nat) : Int))) ^^^ (BitVec.ofInt 64 (IntKind.wrap IntKind.u64 ((IntKind.wrap IntKind.u64 (((BitVec.toNat ((BitVec.ofInt 64 (IntKind.wrap IntKind.u64 (((BitVec.toNat ((BitVec.ofInt 64 n2) ^^^ (BitVec.ofInt 64 (IntKind.wrap IntKind.u64 (n2 * (8192 : Int)))))) : Nat) : Int))) ^^^ (BitVec.ofInt 64 (Int.fdiv (IntKind.wrap IntKind.u64 (((BitVec.toNat ((BitVec.ofInt 64 n2) ^^^ (BitVec.ofInt 64 (IntKind.wrap IntKind.u64 (n2 * (8192 : Int)))))) : Nat) : Int)) (128 : Int))))) : Nat) : Int)) * (131072 : Int)))))) : Nat) : Int)))))
 none)
 (cond ((IntKind.wrap IntKind.u64 n) == (0 : Int))
 none
 (k (IntKind.wrap IntKind.i64 (Int.tmod (IntKind.wrap IntKind.u64 ((0 : Int) + (Int.fdiv (IntKind.wrap IntKind.u64 (((BitVec.toNat ((BitVec.ofInt 64 (IntKind.wrap IntKind.u64 (((BitVec.toNat ((BitVec.ofInt 64 (IntKind.wrap IntKind.u64 (((BitVec.toNat ((BitVec.ofInt 64 n2) ^^^ (BitVec.ofInt 64 (IntKind.wrap IntKind.u64 (n2 * (8192 : Int)))))) : Nat) : Int))) ^^^ (BitVec.ofInt 64 (Int.fdiv (IntKind.wrap IntKind.u64 (((BitVec.toNat ((BitVec.ofInt 64 n2) ^^^ (BitVec.ofInt 64 (IntKind.wrap IntKind.u64 (n2 * (8192 : Int)))))) : Nat) : Int)) (128 : Int))))) : Nat) : Int))) ^^^ (BitVec.ofInt 64 (IntKind.wrap IntKind.u64 ((IntKind.wrap IntKind.u64 (((BitVec.toNat ((BitVec.ofInt 64 (IntKind.wrap IntKind.u64 (((BitVec.toNat ((BitVec.ofInt 64 n2) ^^^ (BitVec.ofInt 64 (IntKind.wrap IntKind.u64 (n2 * (8192 : Int)))))) : Nat) : Int))) ^^^ (BitVec.ofInt 64 (Int.fdiv (IntKind.wrap IntKind.u64 (((BitVec.toNat ((BitVec.ofInt 64 n2) ^^^ (BitVec.ofInt 64 (IntKind.wrap IntKind.u64 (n2 * (8192 : Int)))))) : Nat) : Int)) (128 : Int))))) : Nat) : Int)) * (131072 : Int)))))) : Nat) : Int)) (1048576 : Int)))) (IntKind.wrap IntKind.u64 n))) n1 (IntKind.wrap IntKind.u64 (((BitVec.toNat ((BitVec.ofInt 64 (IntKind.wrap IntKind.u64 (((BitVec.toNat ((BitVec.ofInt 64 (IntKind.wrap IntKind.u64 (((BitVec.toNat ((BitVec.ofInt 64 n2) ^^^ (BitVec.ofInt 64 (IntKind.wrap IntKind.u64 (n2 * (8192 : Int)))))) : Nat) : Int))) ^^^ (BitVec.ofInt 64 (Int.fdiv (IntKind.wrap IntKind.u64 (((BitVec.toNat ((BitVec.ofInt 64 n2) ^^^ (BitVec.ofInt 64 (IntKind.wrap IntKind.u64 (n2 * (8192 : Int)))))) : Nat) : Int)) (128 : Int))))) : Nat) : Int))) ^^^ (BitVec.ofInt 64 (IntKind.wrap IntKind.u64 ((IntKind.wrap IntKind.u64 (((BitVec.toNat ((BitVec.ofInt 64 (IntKind.wrap IntKind.u64 (((BitVec.toNat ((BitVec.ofInt 64 n2) ^^^ (BitVec.ofInt 64 (IntKind.wrap IntKind.u64 (n2 * (8192 : Int)))))) : Nat) : Int))) ^^^ (BitVec.ofInt 64 (Int.fdiv (IntKind.wrap IntKind.u64 (((BitVec.toNat ((BitVec.ofInt 64 n2) ^^^ (BitVec.ofInt 64 (IntKind.wrap IntKind.u64 (n2 * (8192 : Int)))))) : Nat) : Int)) (128 : Int))))) : Nat) : Int)) * (131072 : Int)))))) : Nat) : Int))))))
theorem e_spec_l01Src_n_Wr (N : Nat) {R : Type} (n : Int) (b : Bool) (n1 : Int) (n2 : Int) (n3 : Int) (l : List Int) (K : AV → Hp E → Option R) :
    runFnI (E := E) (O_spec_l01Src_n_Wr N) (noIt) sl_spec_l01Src_n_Wr J_spec_l01Src_n_Wr Try.f17 [(AV.sc (SV.ptr 0 0 0)), (AV.sc (SV.int IntKind.i64 n))] [(some (HE.mk false (HB.exp none [(SV.slc 1 none b), (SV.int IntKind.i64 n1), (SV.int IntKind.u64 n2), (SV.int IntKind.i64 n3)]))), (some (HE.mk true (HB.rows (B.u8 l))))] K =
      g_spec_l01Src_n_Wr N n b n1 n2 n3 l (fun n4 n5 n6 => K (AV.sc (SV.int IntKind.i64 n4)) [(some (HE.mk false (HB.exp none [(SV.slc 1 none b), (SV.int IntKind.i64 n5), (SV.int IntKind.u64 n6), (SV.int IntKind.i64 n3)]))), (some (HE.mk true (HB.rows (B.u8 l))))]) := by kernel_rfl
noncomputable def o_spec_l01Src_n_Wr (N : Nat) {R : Type} (args : List AV) (H : Hp E) (K : AV → Hp E → Option R) : Option R :=
 match args, H with
 | [(AV.sc (SV.ptr 0 0 0)), (AV.sc (SV.int IntKind.i64 n))], [(some (HE.mk false (HB.exp none [(SV.slc 1 none b), (SV.int IntKind.i64 n1), (SV.int IntKind.u64 n2), (SV.int IntKind.i64 n3)]))), (some (HE.mk true (HB.rows (B.u8 l))))] => g_spec_l01Src_n_Wr N n b n1 n2 n3 l (fun n4 n5 n6 => K (AV.sc (SV.int IntKind.i64 n4)) [(some (HE.mk false (HB.exp none [(SV.slc 1 none b), (SV.int IntKind.i64 n5), (SV.int IntKind.u64 n6), (SV.int IntKind.i64 n3)]))), (some (HE.mk true (HB.rows (B.u8 l))))])
 | _, _ => none
theorem o_spec_l01Src_n_Wr_ok (N : Nat) : FnOk E 17 (o_spec_l01Src_n_Wr N) := by
  intro R args H K r h
  unfold o_spec_l01Src_n_Wr at h
  dsimp only at h
  split at h
  · exact fnB_ok (ids := []) (top := []) ok (O_spec_l01Src_n_Wr_ok N) (jn_ok _ _ _) Try.func17 (by kernel_rfl) (IT := noIt) (sl := sl_spec_l01Src_n_Wr) (J := J_spec_l01Src_n_Wr) (K := K) (H := [(some (HE.mk false (HB.exp none [(SV.slc 1 none _), (SV.int IntKind.i64 _), (SV.int IntKind.u64 _), (SV.int IntKind.i64 _)]))), (some (HE.mk true (HB.rows (B.u8 _))))]) (noIt_ok) (by kernel_rfl) rfl ((e_spec_l01Src_n_Wr N _ _ _ _ _ _ K).trans h)
  · cases h
/-! ### (*loop.example/g00038/spec.l01Src).one -/
abbrev sl_spec_l01Src_one_Wr : SlotT := []
abbrev J_spec_l01Src_one_Wr : JT := jn [] [] []
noncomputable def O_spec_l01Src_one_Wr (N : Nat) : Orc E := addFn 17 (o_spec_l01Src_n_Wr N) (noFn)
theorem O_spec_l01Src_one_Wr_ok (N : Nat) : OrcOk (O_spec_l01Src_one_Wr N) := addFn_ok (o_spec_l01Src_n_Wr_ok N) (noFn_ok)
noncomputable def g_spec_l01Src_one_Wr (N : Nat) {R : Type} (n : Int) (b : Bool) (n1 : Int) (n2 : Int) (n3 : Int) (l : List Int) (k : Bool → Int → Int → Option R) : Option R :=
 (g_spec_l01Src_n_Wr N n b n1 n2 n3 l fun n4 n5 n6 =>
 (k (n4 == (0 : Int)) n5 n6))
theorem e_spec_l01Src_one_Wr (N : Nat) {R : Type} (n : Int) (b : Bool) (n1 : Int) (n2 : Int) (n3 : Int) (l : List Int) (K : AV → Hp E → Option R) :
    runFnI (E := E) (O_spec_l01Src_one_Wr N) (noIt) sl_spec_l01Src_one_Wr J_spec_l01Src_one_Wr Try.f18 [(AV.sc (SV.ptr 0 0 0)), (AV.sc (SV.int IntKind.i64 n))] [(some (HE.mk false (HB.exp none [(SV.slc 1 none b), (SV.int IntKind.i64 n1), (SV.int IntKind.u64 n2), (SV.int IntKind.i64 n3)]))), (some (HE.mk true (HB.rows (B.u8 l))))] K =
      g_spec_l01Src_one_Wr N n b n1 n2 n3 l (fun b1 n7 n8 => K (AV.sc (SV.bool b1)) [(some (HE.mk false (HB.exp none [(SV.slc 1 none b), (SV.int IntKind.i64 n7), (SV.int IntKind.u64 n8), (SV.int IntKind.i64 n3)]))), (some (HE.mk true (HB.rows (B.u8 l))))]) := by kernel_rfl
noncomputable def o_spec_l01Src_one_Wr (N : Nat) {R : Type} (args : List AV) (H : Hp E) (K : AV → Hp E → Option R) : Option R :=
 match args, H with
 | [(AV.sc (SV.ptr 0 0 0)), (AV.sc (SV.int IntKind.i64 n))], [(some (HE.mk false (HB.exp none [(SV.slc 1 none b), (SV.int IntKind.i64 n1), (SV.int IntKind.u64 n2), (SV.int IntKind.i64 n3)]))), (some (HE.mk true (HB.rows (B.u8 l))))] => g_spec_l01Src_one_Wr N n b n1 n2 n3 l (fun b1 n7 n8 => K (AV.sc (SV.bool b1)) [(some (HE.mk false (HB.exp none [(SV.slc 1 none b), (SV.int IntKind.i64 n7), (SV.int IntKind.u64 n8), (SV.int IntKind.i64 n3)]))), (some (HE.mk true (HB.rows (B.u8 l))))])
 | _, _ => none
theorem o_spec_l01Src_one_Wr_ok (N : Nat) : FnOk E 18 (o_spec_l01Src_one_Wr N) := by
  intro R args H K r h
  unfold o_spec_l01Src_one_Wr at h
  dsimp only at h
  split at h
  · exact fnB_ok (ids := []) (top := []) ok (O_spec_l01Src_one_Wr_ok N) (jn_ok _ _ _) Try.func18 (by kernel_rfl) (IT := noIt) (sl := sl_spec_l01Src_one_Wr) (J := J_spec_l01Src_one_Wr) (K := K) (H := [(some (HE.mk false (HB.exp none [(SV.slc 1 none _), (SV.int IntKind.i64 _), (SV.int IntKind.u64 _), (SV.int IntKind.i64 _)]))), (some (HE.mk true (HB.rows (B.u8 _))))]) (noIt_ok) (by kernel_rfl) rfl ((e_spec_l01Src_one_Wr N _ _ _ _ _ _ K).trans h)
  · cases h
/-! ### (*loop.example/g00038/spec.l01Src).tasks -/
abbrev sl_spec_l01Src_tasks_Wr : SlotT := [(0, ([0, 3, 4], [0, 3]))]
abbrev J_spec_l01Src_tasks_Wr : JT := jn [] [] [(12, [7])]
noncomputable def O_spec_l01Src_tasks_Wr (N : Nat) : Orc E := addFn 18 (o_spec_l01Src_one_Wr N) (addFn 17 (o_spec_l01Src_n_Wr N) (noFn))
noncomputable def pa_spec_l01Src_tasks_Wr__o_spec_l01Src_one_Wr (N : Nat) (G_spec_l01Src_one_Wr : ∀ {R : Type} (n : Int) (b : Bool) (n1 : Int) (n2 : Int) (n3 : Int) (l : List Int) (k : Bool → Int → Int → Option R), Option R) {R : Type} (args : List AV) (H : Hp E) (K : AV → Hp E → Option R) : Option R :=
 match args, H with
 | [(AV.sc (SV.ptr 0 0 0)), (AV.sc (SV.int IntKind.i64 n))], [(some (HE.mk false (HB.exp none [(SV.slc 1 none b), (SV.int IntKind.i64 n1), (SV.int IntKind.u64 n2), (SV.int IntKind.i64 n3)]))), (some (HE.mk true (HB.rows (B.u8 l))))] => G_spec_l01Src_one_Wr n b n1 n2 n3 l (fun b1 n7 n8 => K (AV.sc (SV.bool b1)) [(some (HE.mk false (HB.exp none [(SV.slc 1 none b), (SV.int IntKind.i64 n7), (SV.int IntKind.u64 n8), (SV.int IntKind.i64 n3)]))), (some (HE.mk true (HB.rows (B.u8 l))))])
 | _, _ => none
noncomputable def pa_spec_l01Src_tasks_Wr__o_spec_l01Src_n_Wr (N : Nat) (G_spec_l01Src_n_Wr : ∀ {R : Type} (n : Int) (b : Bool) (n1 : Int) (n2 : Int) (n3 : Int) (l : List Int) (k : Int → Int → Int → Option R), Option R) {R : Type} (args : List AV) (H : Hp E) (K : AV → Hp E → Option R) : Option R :=
 match args, H with
 | [(AV.sc (SV.ptr 0 0 0)), (AV.sc (SV.int IntKind.i64 n))], [(some (HE.mk false (HB.exp none [(SV.slc 1 none b), (SV.int IntKind.i64 n1), (SV.int IntKind.u64 n2), (SV.int IntKind.i64 n3)]))), (some (HE.mk true (HB.rows (B.u8 l))))] => G_spec_l01Src_n_Wr n b n1 n2 n3 l (fun n4 n5 n6 => K (AV.sc (SV.int IntKind.i64 n4)) [(some (HE.mk false (HB.exp none [(SV.slc 1 none b), (SV.int IntKind.i64 n5), (SV.int IntKind.u64 n6), (SV.int IntKind.i64 n3)]))), (some (HE.mk true (HB.rows (B.u8 l))))])
 | _, _ => none
noncomputable def OA_spec_l01Src_tasks_Wr (N : Nat) (G_spec_l01Src_one_Wr : ∀ {R : Type} (n : Int) (b : Bool) (n1 : Int) (n2 : Int) (n3 : Int) (l : List Int) (k : Bool → Int → Int → Option R), Option R) (G_spec_l01Src_n_Wr : ∀ {R : Type} (n : Int) (b : Bool) (n1 : Int) (n2 : Int) (n3 : Int) (l : List Int) (k : Int → Int → Int → Option R), Option R) : Orc E := addFn 18 (pa_spec_l01Src_tasks_Wr__o_spec_l01Src_one_Wr N G_spec_l01Src_one_Wr) (addFn 17 (pa_spec_l01Src_tasks_Wr__o_spec_l01Src_n_Wr N G_spec_l01Src_n_Wr) (noFn))
theorem O_spec_l01Src_tasks_Wr_ok (N : Nat) : OrcOk (O_spec_l01Src_tasks_Wr N) := addFn_ok (o_spec_l01Src_one_Wr_ok N) (addFn_ok (o_spec_l01Src_n_Wr_ok N) (noFn_ok))
noncomputable def s_spec_l01Src_tasks_Wr_0 (N : Nat) {R : Type} (b2 : Bool) (n9 : Int) (l1 : List Int) (b1 : Bool) (n6 : Int) (n7 : Int) (n8 : Int) (l2 : List RtTask) (ag : Bool → Int → Int → Int → (List RtTask) → Option R)  (kN : Bool → Int → Int → (List RtTask) → Option R) : Option R :=
 (cond (decide ((n6 > (0 : Int))))
 (g_spec_l01Src_n_Wr N (5 : Int) b2 n7 n8 n9 l1 fun n10 n11 n12 =>
 (g_spec_l01Src_n_Wr N (7 : Int) b2 n11 n12 n9 l1 fun n13 n14 n15 =>
 (cond ((decide (((0 : Int) ≤ n13))) && (decide ((n13 < (7 : Int)))))
 (elemK [(2 : Int), (3 : Int), (4 : Int), (6 : Int), (12 : Int), (40 : Int), (7 : Int)] (Int.toNat n13) fun x =>
 (g_spec_l01Src_n_Wr N x b2 n14 n15 n9 l1 fun n16 n17 n18 =>
 (g_spec_l01Src_one_Wr N (40 : Int) b2 n17 n18 n9 l1 fun b3 n19 n20 =>
 (cond b3
 (g_spec_l01Src_n_Wr N (3 : Int) b2 n19 n20 n9 l1 fun n21 n22 n23 =>
 (cond ((decide (((0 : Int) ≤ n21))) && (decide ((n21 < (3 : Int)))))
 (elemK [(-(1 : Int)), (101 : Int), (100 : Int)] (Int.toNat n21) fun x1 =>
 (g_spec_l01Src_one_Wr N (40 : Int) b2 n22 n23 n9 l1 fun b4 n24 n25 =>
 (cond b4
 (g_spec_l01Src_n_Wr N (2 : Int) b2 n24 n25 n9 l1 fun n26 n27 n28 =>
 (cond ((decide (((0 : Int) ≤ n26))) && (decide ((n26 < (2 : Int)))))
 (elemK [(0 : Int), (41 : Int)] (Int.toNat n26) fun x2 =>
 (g_spec_l01Src_one_Wr N (40 : Int) b2 n27 n28 n9 l1 fun b5 n29 n30 =>
 (cond b5
 (g_spec_l01Src_n_Wr N (3 : Int) b2 n29 n30 n9 l1 fun n31 n32 n33 =>
 (cond ((decide (((0 : Int) ≤ n31))) && (decide ((n31 < (((List.length [(0 : Int), (IntKind.wrap IntKind.i64 (x2 + (1 : Int))), x2]) : Nat) : Int)))))
 (elemK [(0 : Int), (IntKind.wrap IntKind.i64 (x2 + (1 : Int))), x2] (Int.toNat n31) fun x3 =>
 (cond (Go.Eng.roomOk ((List.length l2) + (List.length [(RtTask.mk x1 x2 x3)])) 24)
 (ag (cond (Nat.beq (List.length [(RtTask.mk x1 x2 x3)]) 0) b1 false) (IntKind.wrap IntKind.i64 (n6 - (1 : Int))) n32 n33 (l2 ++ [(RtTask.mk x1 x2 x3)]))
 none))
 none))
 (cond (Go.Eng.roomOk ((List.length l2) + (List.length [(RtTask.mk x1 x2 (IntKind.wrap IntKind.i64 ((1 : Int) + (IntKind.wrap IntKind.i64 (Int.tdiv n16 (2 : Int))))))])) 24)
 (ag (cond (Nat.beq (List.length [(RtTask.mk x1 x2 (IntKind.wrap IntKind.i64 ((1 : Int) + (IntKind.wrap IntKind.i64 (Int.tdiv n16 (2 : Int))))))]) 0) b1 false) (IntKind.wrap IntKind.i64 (n6 - (1 : Int))) n29 n30 (l2 ++ [(RtTask.mk x1 x2 (IntKind.wrap IntKind.i64 ((1 : Int) + (IntKind.wrap IntKind.i64 (Int.tdiv n16 (2 : Int))))))]))
 none))))
 none))
 (g_spec_l01Src_one_Wr N (40 : Int) b2 n24 n25 n9 l1 fun b6 n34 n35 =>
 (cond b6
 (g_spec_l01Src_n_Wr N (3 : Int) b2 n34 n35 n9 l1 fun n36 n37 n38 =>
 (cond ((decide (((0 : Int) ≤ n36))) && (decide ((n36 < (((List.length [(0 : Int), (IntKind.wrap IntKind.i64 (x + (1 : Int))), x]) : Nat) : Int)))))
 (elemK [(0 : Int), (IntKind.wrap IntKind.i64 (x + (1 : Int))), x] (Int.toNat n36) fun x4 =>
 (cond (Go.Eng.roomOk ((List.length l2) + (List.length [(RtTask.mk x1 x x4)])) 24)
 (ag (cond (Nat.beq (List.length [(RtTask.mk x1 x x4)]) 0) b1 false) (IntKind.wrap IntKind.i64 (n6 - (1 : Int))) n37 n38 (l2 ++ [(RtTask.mk x1 x x4)]))
 none))
 none))
 (cond (Go.Eng.roomOk ((List.length l2) + (List.length [(RtTask.mk x1 x (IntKind.wrap IntKind.i64 ((1 : Int) + (IntKind.wrap IntKind.i64 (Int.tdiv n16 (2 : Int))))))])) 24)
 (ag (cond (Nat.beq (List.length [(RtTask.mk x1 x (IntKind.wrap IntKind.i64 ((1 : Int) + (IntKind.wrap IntKind.i64 (Int.tdiv n16 (2 : Int))))))]) 0) b1 false) (IntKind.wrap IntKind.i64 (n6 - (1 : Int))) n34 n35 (l2 ++ [(RtTask.mk x1 x (IntKind.wrap IntKind.i64 ((1 : Int) + (IntKind.wrap IntKind.i64 (Int.tdiv n16 (2 : Int))))))]))
 none))))))
 none))
 (g_spec_l01Src_one_Wr N (40 : Int) b2 n19 n20 n9 l1 fun b7 n39 n40 =>
 (cond b7
 (g_spec_l01Src_n_Wr N (2 : Int) b2 n39 n40 n9 l1 fun n41 n42 n43 =>
 (cond ((decide (((0 : Int) ≤ n41))) && (decide ((n41 < (2 : Int)))))
 (elemK [(0 : Int), (41 : Int)] (Int.toNat n41) fun x5 =>
 (g_spec_l01Src_one_Wr N (40 : Int) b2 n42 n43 n9 l1 fun b8 n44 n45 =>
 (cond b8
 (g_spec_l01Src_n_Wr N (3 : Int) b2 n44 n45 n9 l1 fun n46 n47 n48 =>
 (cond ((decide (((0 : Int) ≤ n46))) && (decide ((n46 < (((List.length [(0 : Int), (IntKind.wrap IntKind.i64 (x5 + (1 : Int))), x5]) : Nat) : Int)))))
 (elemK [(0 : Int), (IntKind.wrap IntKind.i64 (x5 + (1 : Int))), x5] (Int.toNat n46) fun x6 =>
 (cond (Go.Eng.roomOk ((List.length l2) + (List.length [(RtTask.mk n10 x5 x6)])) 24)
 (ag (cond (Nat.beq (List.length [(RtTask.mk n10 x5 x6)]) 0) b1 false) (IntKind.wrap IntKind.i64 (n6 - (1 : Int))) n47 n48 (l2 ++ [(RtTask.mk n10 x5 x6)]))
 none))
 none))
 (cond (Go.Eng.roomOk ((List.length l2) + (List.length [(RtTask.mk n10 x5 (IntKind.wrap IntKind.i64 ((1 : Int) + (IntKind.wrap IntKind.i64 (Int.tdiv n16 (2 : Int))))))])) 24)
 (ag (cond (Nat.beq (List.length [(RtTask.mk n10 x5 (IntKind.wrap IntKind.i64 ((1 : Int) + (IntKind.wrap IntKind.i64 (Int.tdiv n16 (2 : Int))))))]) 0) b1 false) (IntKind.wrap IntKind.i64 (n6 - (1 : Int))) n44 n45 (l2 ++ [(RtTask.mk n10 x5 (IntKind.wrap IntKind.i64 ((1 : Int) + (IntKind.wrap IntKind.i64 (Int.tdiv n16 (2 : Int))))))]))
 none))))
 none))
 (g_spec_l01Src_one_Wr N (40 : Int) b2 n39 n40 n9 l1 fun b9 n49 n50 =>
 (cond b9
 (g_spec_l01Src_n_Wr N (3 : Int) b2 n49 n50 n9 l1 fun n51 n52 n53 =>
 (cond ((decide (((0 : Int) ≤ n51))) && (decide ((n51 < (((List.length [(0 : Int), (IntKind.wrap IntKind.i64 (x + (1 : Int))), x]) : Nat) : Int)))))
 (elemK [(0 : Int), (IntKind.wrap IntKind.i64 (x + (1 : Int))), x] (Int.toNat n51) fun x7 =>
 (cond (Go.Eng.roomOk ((List.length l2) + (List.length [(RtTask.mk n10 x x7)])) 24)
 (ag (cond (Nat.beq (List.length [(RtTask.mk n10 x x7)]) 0) b1 false) (IntKind.wrap IntKind.i64 (n6 - (1 : Int))) n52 n53 (l2 ++ [(RtTask.mk n10 x x7)]))
 none))
 none))
 (cond (Go.Eng.roomOk ((List.length l2) + (List.length [(RtTask.mk n10 x (IntKind.wrap IntKind.i64 ((1 : Int) + (IntKind.wrap IntKind.i64 (Int.tdiv n16 (2 : Int))))))])) 24)
 (ag (cond (Nat.beq (List.length [(RtTask.mk n10 x (IntKind.wrap IntKind.i64 ((1 : Int) + (IntKind.wrap IntKind.i64 (Int.tdiv n16 (2 : Int))))))]) 0) b1 false) (IntKind.wrap IntKind.i64 (n6 - (1 : Int))) n49 n50 (l2 ++ [(RtTask.mk n10 x (IntKind.wrap IntKind.i64 ((1 : Int) + (IntKind.wrap IntKind.i64 (Int.tdiv n16 (2 : Int))))))]))
 none)))))))))
 none)))
 (kN b1 n7 n8 l2))
noncomputable def ga_s_spec_l01Src_tasks_Wr_0 (N : Nat) (G_spec_l01Src_one_Wr : ∀ {R : Type} (n : Int) (b : Bool) (n1 : Int) (n2 : Int) (n3 : Int) (l : List Int) (k : Bool → Int → Int → Option R), Option R) (G_spec_l01Src_n_Wr : ∀ {R : Type} (n : Int) (b : Bool) (n1 : Int) (n2 : Int) (n3 : Int) (l : List Int) (k : Int → Int → Int → Option R), Option R) {R : Type} (b2 : Bool) (n9 : Int) (l1 : List Int) (b1 : Bool) (n6 : Int) (n7 : Int) (n8 : Int) (l2 : List RtTask) (ag : Bool → Int → Int → Int → (List RtTask) → Option R)  (kN : Bool → Int → Int → (List RtTask) → Option R) : Option R :=
 (cond (decide ((n6 > (0 : Int))))
 (G_spec_l01Src_n_Wr (5 : Int) b2 n7 n8 n9 l1 fun n10 n11 n12 =>
 (G_spec_l01Src_n_Wr (7 : Int) b2 n11 n12 n9 l1 fun n13 n14 n15 =>
 (cond ((decide (((0 : Int) ≤ n13))) && (decide ((n13 < (7 : Int)))))
 (elemK [(2 : Int), (3 : Int), (4 : Int), (6 : Int), (12 : Int), (40 : Int), (7 : Int)] (Int.toNat n13) fun x =>
 (G_spec_l01Src_n_Wr x b2 n14 n15 n9 l1 fun n16 n17 n18 =>
 (G_spec_l01Src_one_Wr (40 : Int) b2 n17 n18 n9 l1 fun b3 n19 n20 =>
 (cond b3
 (G_spec_l01Src_n_Wr (3 : Int) b2 n19 n20 n9 l1 fun n21 n22 n23 =>
 (cond ((decide (((0 : Int) ≤ n21))) && (decide ((n21 < (3 : Int)))))
 (elemK [(-(1 : Int)), (101 : Int), (100 : Int)] (Int.toNat n21) fun x1 =>
 (G_spec_l01Src_one_Wr (40 : Int) b2 n22 n23 n9 l1 fun b4 n24 n25 =>
 (cond b4
 (G_spec_l01Src_n_Wr (2 : Int) b2 n24 n25 n9 l1 fun n26 n27 n28 =>
 (cond ((decide (((0 : Int) ≤ n26))) && (decide ((n26 < (2 : Int)))))
 (elemK [(0 : Int), (41 : Int)] (Int.toNat n26) fun x2 =>
 (G_spec_l01Src_one_Wr (40 : Int) b2 n27 n28 n9 l1 fun b5 n29 n30 =>
 (cond b5
 (G_spec_l01Src_n_Wr (3 : Int) b2 n29 n30 n9 l1 fun n31 n32 n33 =>
 (cond ((decide (((0 : Int) ≤ n31))) && (decide ((n31 < (((List.length [(0 : Int), (IntKind.wrap IntKind.i64 (x2 + (1 : Int))), x2]) : Nat) : Int)))))
 (elemK [(0 : Int), (IntKind.wrap IntKind.i64 (x2 + (1 : Int))), x2] (Int.toNat n31) fun x3 =>
 (cond (Go.Eng.roomOk ((List.length l2) + (List.length [(RtTask.mk x1 x2 x3)])) 24)
 (ag (cond (Nat.beq (List.length [(RtTask.mk x1 x2 x3)]) 0) b1 false) (IntKind.wrap IntKind.i64 (n6 - (1 : Int))) n32 n33 (l2 ++ [(RtTask.mk x1 x2 x3)]))
 none))
 none))
 (cond (Go.Eng.roomOk ((List.length l2) + (List.length [(RtTask.mk x1 x2 (IntKind.wrap IntKind.i64 ((1 : Int) + (IntKind.wrap IntKind.i64 (Int.tdiv n16 (2 : Int))))))])) 24)
 (ag (cond (Nat.beq (List.length [(RtTask.mk x1 x2 (IntKind.wrap IntKind.i64 ((1 : Int) + (IntKind.wrap IntKind.i64 (Int.tdiv n16 (2 : Int))))))]) 0) b1 false) (IntKind.wrap IntKind.i64 (n6 - (1 : Int))) n29 n30 (l2 ++ [(RtTask.mk x1 x2 (IntKind.wrap IntKind.i64 ((1 : Int) + (IntKind.wrap IntKind.i64 (Int.tdiv n16 (2 : Int))))))]))
 none))))
 none))
 (G_spec_l01Src_one_Wr (40 : Int) b2 n24 n25 n9 l1 fun b6 n34 n35 =>
 (cond b6
 (G_spec_l01Src_n_Wr (3 : Int) b2 n34 n35 n9 l1 fun n36 n37 n38 =>
 (cond ((decide (((0 : Int) ≤ n36))) && (decide ((n36 < (((List.length [(0 : Int), (IntKind.wrap IntKind.i64 (x + (1 : Int))), x]) : Nat) : Int)))))
 (elemK [(0 : Int), (IntKind.wrap IntKind.i64 (x + (1 : Int))), x] (Int.toNat n36) fun x4 =>
 (cond (Go.Eng.roomOk ((List.length l2) + (List.length [(RtTask.mk x1 x x4)])) 24)
 (ag (cond (Nat.beq (List.length [(RtTask.mk x1 x x4)]) 0) b1 false) (IntKind.wrap IntKind.i64 (n6 - (1 : Int))) n37 n38 (l2 ++ [(RtTask.mk x1 x x4)]))
 none))
 none))
 (cond (Go.Eng.roomOk ((List.length l2) + (List.length [(RtTask.mk x1 x (IntKind.wrap IntKind.i64 ((1 : Int) + (IntKind.wrap IntKind.i64 (Int.tdiv n16 (2 : Int))))))])) 24)
 (ag (cond (Nat.beq (List.length [(RtTask.mk x1 x (IntKind.wrap IntKind.i64 ((1 : Int) + (IntKind.wrap IntKind.i64 (Int.tdiv n16 (2 : Int))))))]) 0) b1 false) (IntKind.wrap IntKind.i64 (n6 - (1 : Int))) n34 n35 (l2 ++ [(RtTask.mk x1 x (IntKind.wrap IntKind.i64 ((1 : Int) + (IntKind.wrap IntKind.i64 (Int.tdiv n16 (2 : Int))))))]))
 none))))))
 none))
 (G_spec_l01Src_one_Wr (40 : Int) b2 n19 n20 n9 l1 fun b7 n39 n40 =>
 (cond b7
 (G_spec_l01Src_n_Wr (2 : Int) b2 n39 n40 n9 l1 fun n41 n42 n43 =>
 (cond ((decide (((0 : Int) ≤ n41))) && (decide ((n41 < (2 : Int)))))
 (elemK [(0 : Int), (41 : Int)] (Int.toNat n41) fun x5 =>
 (G_spec_l01Src_one_Wr (40 : Int) b2 n42 n43 n9 l1 fun b8 n44 n45 =>
 (cond b8
 (G_spec_l01Src_n_Wr (3 : Int) b2 n44 n45 n9 l1 fun n46 n47 n48 =>
 (cond ((decide (((0 : Int) ≤ n46))) && (decide ((n46 < (((List.length [(0 : Int), (IntKind.wrap IntKind.i64 (x5 + (1 : Int))), x5]) : Nat) : Int)))))
 (elemK [(0 : Int), (IntKind.wrap IntKind.i64 (x5 + (1 : Int))), x5] (Int.toNat n46) fun x6 =>
 (cond (Go.Eng.roomOk ((List.length l2) + (List.length [(RtTask.mk n10 x5 x6)])) 24)
 (ag (cond (Nat.beq (List.length [(RtTask.mk n10 x5 x6)]) 0) b1 false) (IntKind.wrap IntKind.i64 (n6 - (1 : Int))) n47 n48 (l2 ++ [(RtTask.mk n10 x5 x6)]))
 none))
 none))
 (cond (Go.Eng.roomOk ((List.length l2) + (List.length [(RtTask.mk n10 x5 (IntKind.wrap IntKind.i64 ((1 : Int) + (IntKind.wrap IntKind.i64 (Int.tdiv n16 (2 : Int))))))])) 24)
 (ag (cond (Nat.beq (List.length [(RtTask.mk n10 x5 (IntKind.wrap IntKind.i64 ((1 : Int) + (IntKind.wrap IntKind.i64 (Int.tdiv n16 (2 : Int))))))]) 0) b1 false) (IntKind.wrap IntKind.i64 (n6 - (1 : Int))) n44 n45 (l2 ++ [(RtTask.mk n10 x5 (IntKind.wrap IntKind.i64 ((1 : Int) + (IntKind.wrap IntKind.i64 (Int.tdiv n16 (2 : Int))))))]))
 none))))
 none))
 (G_spec_l01Src_one_Wr (40 : Int) b2 n39 n40 n9 l1 fun b9 n49 n50 =>
 (cond b9
 (G_spec_l01Src_n_Wr (3 : Int) b2 n49 n50 n9 l1 fun n51 n52 n53 =>
 (cond ((decide (((0 : Int) ≤ n51))) && (decide ((n51 < (((List.length [(0 : Int), (IntKind.wrap IntKind.i64 (x + (1 : Int))), x]) : Nat) : Int)))))
 (elemK [(0 : Int), (IntKind.wrap IntKind.i64 (x + (1 : Int))), x] (Int.toNat n51) fun x7 =>
 (cond (Go.Eng.roomOk ((List.length l2) + (List.length [(RtTask.mk n10 x x7)])) 24)
 (ag (cond (Nat.beq (List.length [(RtTask.mk n10 x x7)]) 0) b1 false) (IntKind.wrap IntKind.i64 (n6 - (1 : Int))) n52 n53 (l2 ++ [(RtTask.mk n10 x x7)]))
 none))
 none))
 (cond (Go.Eng.roomOk ((List.length l2) + (List.length [(RtTask.mk n10 x (IntKind.wrap IntKind.i64 ((1 : Int) + (IntKind.wrap IntKind.i64 (Int.tdiv n16 (2 : Int))))))])) 24)
 (ag (cond (Nat.beq (List.length [(RtTask.mk n10 x (IntKind.wrap IntKind.i64 ((1 : Int) + (IntKind.wrap IntKind.i64 (Int.tdiv n16 (2 : Int))))))]) 0) b1 false) (IntKind.wrap IntKind.i64 (n6 - (1 : Int))) n49 n50 (l2 ++ [(RtTask.mk n10 x (IntKind.wrap IntKind.i64 ((1 : Int) + (IntKind.wrap IntKind.i64 (Int.tdiv n16 (2 : Int))))))]))
 none)))))))))
 none)))
 (kN b1 n7 n8 l2))
noncomputable def l_spec_l01Src_tasks_Wr_0 (N : Nat) {R : Type} (b2 : Bool) (n9 : Int) (l1 : List Int) (kN : Bool → Int → Int → (List RtTask) → Option R) : Nat → Bool → Int → Int → Int → (List RtTask) → Option R
 | 0, _, _, _, _, _ => none
 | f + 1, b1, n6, n7, n8, l2 => s_spec_l01Src_tasks_Wr_0 N b2 n9 l1 b1 n6 n7 n8 l2 (fun b1 n6 n7 n8 l2 => l_spec_l01Src_tasks_Wr_0 N b2 n9 l1 kN f b1 n6 n7 n8 l2)  kN
noncomputable def c_spec_l01Src_tasks_Wr_0 (N : Nat) {R : Type} (b2 : Bool) (n9 : Int) (l1 : List Int) (b1 : Bool) (n6 : Int) (n7 : Int) (n8 : Int) (l2 : List RtTask) (kN : Bool → Int → Int → (List RtTask) → Option R) : Option R := l_spec_l01Src_tasks_Wr_0 N b2 n9 l1 kN N b1 n6 n7 n8 l2
theorem ea_se_spec_l01Src_tasks_Wr_0 (N : Nat) (G_spec_l01Src_one_Wr : ∀ {R : Type} (n : Int) (b : Bool) (n1 : Int) (n2 : Int) (n3 : Int) (l : List Int) (k : Bool → Int → Int → Option R), Option R) (G_spec_l01Src_n_Wr : ∀ {R : Type} (n : Int) (b : Bool) (n1 : Int) (n2 : Int) (n3 : Int) (l : List Int) (k : Int → Int → Int → Option R), Option R) {R : Type} (b2 : Bool) (n9 : Int) (l1 : List Int) (b1 : Bool) (n6 : Int) (n7 : Int) (n8 : Int) (l2 : List RtTask) (AG : List (Option AV) → Hp E → Option R) (KL : Ex → List (Option AV) → Hp E → Option R) :
    iterStep (E := E) (OA_spec_l01Src_tasks_Wr N G_spec_l01Src_one_Wr G_spec_l01Src_n_Wr) (fun {R} => LI (noIt) 2 72 sl_spec_l01Src_tasks_Wr (R := R)) J_spec_l01Src_tasks_Wr 2 72 0 [0, 3, 4] [0, 3] (body Try.f19 0) AG KL [(some (AV.sc (SV.ptr 0 0 0))), (some (AV.sc (SV.slc 2 none b1))), (some (AV.sc (SV.int IntKind.i64 n6)))] [(some (HE.mk false (HB.exp none [(SV.slc 1 none b2), (SV.int IntKind.i64 n7), (SV.int IntKind.u64 n8), (SV.int IntKind.i64 n9)]))), (some (HE.mk true (HB.rows (B.u8 l1)))), (some (HE.mk false (HB.rows (B.iRtTask l2))))] =
      ga_s_spec_l01Src_tasks_Wr_0 N G_spec_l01Src_one_Wr G_spec_l01Src_n_Wr b2 n9 l1 b1 n6 n7 n8 l2 (fun b1 n6 n7 n8 l2 => AG [(some (AV.sc (SV.ptr 0 0 0))), (some (AV.sc (SV.slc 2 none b1))), (some (AV.sc (SV.int IntKind.i64 n6)))] [(some (HE.mk false (HB.exp none [(SV.slc 1 none b2), (SV.int IntKind.i64 n7), (SV.int IntKind.u64 n8), (SV.int IntKind.i64 n9)]))), (some (HE.mk true (HB.rows (B.u8 l1)))), (some (HE.mk false (HB.rows (B.iRtTask l2))))])  (fun b15 n64 n65 l5 => KL Ex.normal [(some (AV.sc (SV.ptr 0 0 0))), (some (AV.sc (SV.slc 2 none b15)))] [(some (HE.mk false (HB.exp none [(SV.slc 1 none b2), (SV.int IntKind.i64 n64), (SV.int IntKind.u64 n65), (SV.int IntKind.i64 n9)]))), (some (HE.mk true (HB.rows (B.u8 l1)))), (some (HE.mk false (HB.rows (B.iRtTask l5))))]) := by kernel_rfl
theorem se_spec_l01Src_tasks_Wr_0 (N : Nat) {R : Type} (b2 : Bool) (n9 : Int) (l1 : List Int) (b1 : Bool) (n6 : Int) (n7 : Int) (n8 : Int) (l2 : List RtTask) (AG : List (Option AV) → Hp E → Option R) (KL : Ex → List (Option AV) → Hp E → Option R) :
    iterStep (E := E) (O_spec_l01Src_tasks_Wr N) (fun {R} => LI (noIt) 2 72 sl_spec_l01Src_tasks_Wr (R := R)) J_spec_l01Src_tasks_Wr 2 72 0 [0, 3, 4] [0, 3] (body Try.f19 0) AG KL [(some (AV.sc (SV.ptr 0 0 0))), (some (AV.sc (SV.slc 2 none b1))), (some (AV.sc (SV.int IntKind.i64 n6)))] [(some (HE.mk false (HB.exp none [(SV.slc 1 none b2), (SV.int IntKind.i64 n7), (SV.int IntKind.u64 n8), (SV.int IntKind.i64 n9)]))), (some (HE.mk true (HB.rows (B.u8 l1)))), (some (HE.mk false (HB.rows (B.iRtTask l2))))] =
      s_spec_l01Src_tasks_Wr_0 N b2 n9 l1 b1 n6 n7 n8 l2 (fun b1 n6 n7 n8 l2 => AG [(some (AV.sc (SV.ptr 0 0 0))), (some (AV.sc (SV.slc 2 none b1))), (some (AV.sc (SV.int IntKind.i64 n6)))] [(some (HE.mk false (HB.exp none [(SV.slc 1 none b2), (SV.int IntKind.i64 n7), (SV.int IntKind.u64 n8), (SV.int IntKind.i64 n9)]))), (some (HE.mk true (HB.rows (B.u8 l1)))), (some (HE.mk false (HB.rows (B.iRtTask l2))))])  (fun b15 n64 n65 l5 => KL Ex.normal [(some (AV.sc (SV.ptr 0 0 0))), (some (AV.sc (SV.slc 2 none b15)))] [(some (HE.mk false (HB.exp none [(SV.slc 1 none b2), (SV.int IntKind.i64 n64), (SV.int IntKind.u64 n65), (SV.int IntKind.i64 n9)]))), (some (HE.mk true (HB.rows (B.u8 l1)))), (some (HE.mk false (HB.rows (B.iRtTask l5))))]) := castPr (by kernel_rfl) (ea_se_spec_l01Src_tasks_Wr_0 N (g_spec_l01Src_one_Wr N) (g_spec_l01Src_n_Wr N) b2 n9 l1 b1 n6 n7 n8 l2 AG KL)
theorem le_spec_l01Src_tasks_Wr_0 (N : Nat) {R : Type} (b2 : Bool) (n9 : Int) (l1 : List Int) (KL : Ex → List (Option AV) → Hp E → Option R) : ∀ (f : Nat), ∀ (b1 : Bool) (n6 : Int) (n7 : Int) (n8 : Int) (l2 : List RtTask), iterK (E := E) (O_spec_l01Src_tasks_Wr N) (fun {R} => LI (noIt) 2 72 sl_spec_l01Src_tasks_Wr (R := R)) J_spec_l01Src_tasks_Wr 2 72 0 [0, 3, 4] [0, 3] (body Try.f19 0) f [(some (AV.sc (SV.ptr 0 0 0))), (some (AV.sc (SV.slc 2 none b1))), (some (AV.sc (SV.int IntKind.i64 n6)))] [(some (HE.mk false (HB.exp none [(SV.slc 1 none b2), (SV.int IntKind.i64 n7), (SV.int IntKind.u64 n8), (SV.int IntKind.i64 n9)]))), (some (HE.mk true (HB.rows (B.u8 l1)))), (some (HE.mk false (HB.rows (B.iRtTask l2))))] KL = l_spec_l01Src_tasks_Wr_0 N b2 n9 l1 (fun b15 n64 n65 l5 => KL Ex.normal [(some (AV.sc (SV.ptr 0 0 0))), (some (AV.sc (SV.slc 2 none b15)))] [(some (HE.mk false (HB.exp none [(SV.slc 1 none b2), (SV.int IntKind.i64 n64), (SV.int IntKind.u64 n65), (SV.int IntKind.i64 n9)]))), (some (HE.mk true (HB.rows (B.u8 l1)))), (some (HE.mk false (HB.rows (B.iRtTask l5))))]) f b1 n6 n7 n8 l2 := by
  intro f
  induction f with
  | zero => intros; rfl
  | succ f ih =>
    intro b1 n6 n7 n8 l2
    rw [iterK_succ, se_spec_l01Src_tasks_Wr_0]
    exact (congrArg (fun z0 => s_spec_l01Src_tasks_Wr_0 N b2 n9 l1 b1 n6 n7 n8 l2 z0 (fun b15 n64 n65 l5 => KL Ex.normal [(some (AV.sc (SV.ptr 0 0 0))), (some (AV.sc (SV.slc 2 none b15)))] [(some (HE.mk false (HB.exp none [(SV.slc 1 none b2), (SV.int IntKind.i64 n64), (SV.int IntKind.u64 n65), (SV.int IntKind.i64 n9)]))), (some (HE.mk true (HB.rows (B.u8 l1)))), (some (HE.mk false (HB.rows (B.iRtTask l5))))])) (funext fun b1 => funext fun n6 => funext fun n7 => funext fun n8 => funext fun l2 => ih b1 n6 n7 n8 l2))
noncomputable def i_spec_l01Src_tasks_Wr_0 (N : Nat) {R : Type} (vs : List (Option AV)) (H : Hp E) (KL : Ex → List (Option AV) → Hp E → Option R) : Option R :=
 match vs, H with
 | [(some (AV.sc (SV.ptr 0 0 0))), (some (AV.sc (SV.slc 2 none b1))), (some (AV.sc (SV.int IntKind.i64 n6)))], [(some (HE.mk false (HB.exp none [(SV.slc 1 none b2), (SV.int IntKind.i64 n7), (SV.int IntKind.u64 n8), (SV.int IntKind.i64 n9)]))), (some (HE.mk true (HB.rows (B.u8 l1)))), (some (HE.mk false (HB.rows (B.iRtTask l2))))] => c_spec_l01Src_tasks_Wr_0 N b2 n9 l1 b1 n6 n7 n8 l2 (fun b16 n66 n67 l6 => KL Ex.normal [(some (AV.sc (SV.ptr 0 0 0))), (some (AV.sc (SV.slc 2 none b16)))] [(some (HE.mk false (HB.exp none [(SV.slc 1 none b2), (SV.int IntKind.i64 n66), (SV.int IntKind.u64 n67), (SV.int IntKind.i64 n9)]))), (some (HE.mk true (HB.rows (B.u8 l1)))), (some (HE.mk false (HB.rows (B.iRtTask l6))))])
 | _, _ => none
noncomputable def IT_spec_l01Src_tasks_Wr_0 (N : Nat) : Its E := addIt 0 (i_spec_l01Src_tasks_Wr_0 N) (noIt)
theorem IT_spec_l01Src_tasks_Wr_0_ok (N : Nat) : ItOk (IT_spec_l01Src_tasks_Wr_0 N) 2 72 sl_spec_l01Src_tasks_Wr (lsB Try.f19 [0]) :=
  addItB_ok (inner := []) ok (O_spec_l01Src_tasks_Wr_ok N) (jn_ok _ _ _) (noIt_ok) rfl (by kernel_rfl) rfl fun vs H KL r h => by
    unfold i_spec_l01Src_tasks_Wr_0 at h
    split at h
    · exact ⟨_, (le_spec_l01Src_tasks_Wr_0 N _ _ _ KL N _ _ _ _ _).trans h⟩
    · cases h
noncomputable def g_spec_l01Src_tasks_Wr (N : Nat) {R : Type} (b : Bool) (n : Int) (n1 : Int) (n2 : Int) (l : List Int) (k : Bool → Int → Int → (List RtTask) → Option R) : Option R :=
 (g_spec_l01Src_n_Wr N (4 : Int) b n n1 n2 l fun n3 n4 n5 =>
 (c_spec_l01Src_tasks_Wr_0 N b n2 l false (IntKind.wrap IntKind.i64 ((1 : Int) + n3)) n4 n5 [] fun b10 n54 n55 l3 =>
 (g_spec_l01Src_one_Wr N (6 : Int) b n54 n55 n2 l fun b11 n56 n57 =>
 (cond b11
 (g_spec_l01Src_one_Wr N (30 : Int) b n56 n57 n2 l fun b12 n58 n59 =>
 (cond b12
 (k false n58 n59 (List.replicate 9 (RtTask.mk (0 : Int) (0 : Int) (0 : Int))))
 (k false n58 n59 [(RtTask.mk (0 : Int) (2 : Int) (1 : Int)), (RtTask.mk (0 : Int) (3 : Int) (1 : Int)), (RtTask.mk (0 : Int) (6 : Int) (1 : Int))])))
 (g_spec_l01Src_one_Wr N (30 : Int) b n56 n57 n2 l fun b13 n60 n61 =>
 (cond b13
 (k false n60 n61 (List.replicate 9 (RtTask.mk (0 : Int) (0 : Int) (0 : Int))))
 (k b10 n60 n61 l3)))))))
noncomputable def ga_g_spec_l01Src_tasks_Wr (N : Nat) (G_spec_l01Src_one_Wr : ∀ {R : Type} (n : Int) (b : Bool) (n1 : Int) (n2 : Int) (n3 : Int) (l : List Int) (k : Bool → Int → Int → Option R), Option R) (G_spec_l01Src_n_Wr : ∀ {R : Type} (n : Int) (b : Bool) (n1 : Int) (n2 : Int) (n3 : Int) (l : List Int) (k : Int → Int → Int → Option R), Option R) {R : Type} (b : Bool) (n : Int) (n1 : Int) (n2 : Int) (l : List Int) (k : Bool → Int → Int → (List RtTask) → Option R) : Option R :=
 (G_spec_l01Src_n_Wr (4 : Int) b n n1 n2 l fun n3 n4 n5 =>
 (c_spec_l01Src_tasks_Wr_0 N b n2 l false (IntKind.wrap IntKind.i64 ((1 : Int) + n3)) n4 n5 [] fun b10 n54 n55 l3 =>
 (G_spec_l01Src_one_Wr (6 : Int) b n54 n55 n2 l fun b11 n56 n57 =>
 (cond b11
 (G_spec_l01Src_one_Wr (30 : Int) b n56 n57 n2 l fun b12 n58 n59 =>
 (cond b12
 (k false n58 n59 (List.replicate 9 (RtTask.mk (0 : Int) (0 : Int) (0 : Int))))
 (k false n58 n59 [(RtTask.mk (0 : Int) (2 : Int) (1 : Int)), (RtTask.mk (0 : Int) (3 : Int) (1 : Int)), (RtTask.mk (0 : Int) (6 : Int) (1 : Int))])))
 (G_spec_l01Src_one_Wr (30 : Int) b n56 n57 n2 l fun b13 n60 n61 =>
 (cond b13
 (k false n60 n61 (List.replicate 9 (RtTask.mk (0 : Int) (0 : Int) (0 : Int))))
 (k b10 n60 n61 l3)))))))
theorem ea_e_spec_l01Src_tasks_Wr (N : Nat) (G_spec_l01Src_one_Wr : ∀ {R : Type} (n : Int) (b : Bool) (n1 : Int) (n2 : Int) (n3 : Int) (l : List Int) (k : Bool → Int → Int → Option R), Option R) (G_spec_l01Src_n_Wr : ∀ {R : Type} (n : Int) (b : Bool) (n1 : Int) (n2 : Int) (n3 : Int) (l : List Int) (k : Int → Int → Int → Option R), Option R) {R : Type} (b : Bool) (n : Int) (n1 : Int) (n2 : Int) (l : List Int) (K : AV → Hp E → Option R) :
    runFnI (E := E) (OA_spec_l01Src_tasks_Wr N G_spec_l01Src_one_Wr G_spec_l01Src_n_Wr) (IT_spec_l01Src_tasks_Wr_0 N) sl_spec_l01Src_tasks_Wr J_spec_l01Src_tasks_Wr Try.f19 [(AV.sc (SV.ptr 0 0 0))] [(some (HE.mk false (HB.exp none [(SV.slc 1 none b), (SV.int IntKind.i64 n), (SV.int IntKind.u64 n1), (SV.int IntKind.i64 n2)]))), (some (HE.mk true (HB.rows (B.u8 l))))] K =
      ga_g_spec_l01Src_tasks_Wr N G_spec_l01Src_one_Wr G_spec_l01Src_n_Wr b n n1 n2 l (fun b14 n62 n63 l4 => K (AV.sc (SV.slc 2 none b14)) [(some (HE.mk false (HB.exp none [(SV.slc 1 none b), (SV.int IntKind.i64 n62), (SV.int IntKind.u64 n63), (SV.int IntKind.i64 n2)]))), (some (HE.mk true (HB.rows (B.u8 l)))), (some (HE.mk false (HB.rows (B.iRtTask l4))))]) := by kernel_rfl
theorem e_spec_l01Src_tasks_Wr (N : Nat) {R : Type} (b : Bool) (n : Int) (n1 : Int) (n2 : Int) (l : List Int) (K : AV → Hp E → Option R) :
    runFnI (E := E) (O_spec_l01Src_tasks_Wr N) (IT_spec_l01Src_tasks_Wr_0 N) sl_spec_l01Src_tasks_Wr J_spec_l01Src_tasks_Wr Try.f19 [(AV.sc (SV.ptr 0 0 0))] [(some (HE.mk false (HB.exp none [(SV.slc 1 none b), (SV.int IntKind.i64 n), (SV.int IntKind.u64 n1), (SV.int IntKind.i64 n2)]))), (some (HE.mk true (HB.rows (B.u8 l))))] K =
      g_spec_l01Src_tasks_Wr N b n n1 n2 l (fun b14 n62 n63 l4 => K (AV.sc (SV.slc 2 none b14)) [(some (HE.mk false (HB.exp none [(SV.slc 1 none b), (SV.int IntKind.i64 n62), (SV.int IntKind.u64 n63), (SV.int IntKind.i64 n2)]))), (some (HE.mk true (HB.rows (B.u8 l)))), (some (HE.mk false (HB.rows (B.iRtTask l4))))]) := castPr (by kernel_rfl) (ea_e_spec_l01Src_tasks_Wr N (g_spec_l01Src_one_Wr N) (g_spec_l01Src_n_Wr N) b n n1 n2 l K)
noncomputable def o_spec_l01Src_tasks_Wr (N : Nat) {R : Type} (args : List AV) (H : Hp E) (K : AV → Hp E → Option R) : Option R :=
 match args, H with
 | [(AV.sc (SV.ptr 0 0 0))], [(some (HE.mk false (HB.exp none [(SV.slc 1 none b), (SV.int IntKind.i64 n), (SV.int IntKind.u64 n1), (SV.int IntKind.i64 n2)]))), (some (HE.mk true (HB.rows (B.u8 l))))] => g_spec_l01Src_tasks_Wr N b n n1 n2 l (fun b14 n62 n63 l4 => K (AV.sc (SV.slc 2 none b14)) [(some (HE.mk false (HB.exp none [(SV.slc 1 none b), (SV.int IntKind.i64 n62), (SV.int IntKind.u64 n63), (SV.int IntKind.i64 n2)]))), (some (HE.mk true (HB.rows (B.u8 l)))), (some (HE.mk false (HB.rows (B.iRtTask l4))))])
 | _, _ => none
theorem o_spec_l01Src_tasks_Wr_ok (N : Nat) : FnOk E 19 (o_spec_l01Src_tasks_Wr N) := by
  intro R args H K r h
  unfold o_spec_l01Src_tasks_Wr at h
  dsimp only at h
  split at h
  · exact fnB_ok (ids := [0]) (top := [0]) ok (O_spec_l01Src_tasks_Wr_ok N) (jn_ok _ _ _) Try.func19 (by kernel_rfl) (IT := IT_spec_l01Src_tasks_Wr_0 N) (sl := sl_spec_l01Src_tasks_Wr) (J := J_spec_l01Src_tasks_Wr) (K := K) (H := [(some (HE.mk false (HB.exp none [(SV.slc 1 none _), (SV.int IntKind.i64 _), (SV.int IntKind.u64 _), (SV.int IntKind.i64 _)]))), (some (HE.mk true (HB.rows (B.u8 _))))]) (IT_spec_l01Src_tasks_Wr_0_ok N) (by kernel_rfl) rfl ((e_spec_l01Src_tasks_Wr N _ _ _ _ _ K).trans h)
  · cases h
/-! ### loop.example/g00038/spec.DrawRunDeadline -/
abbrev sl_spec_DrawRunDeadline_r : SlotT := []
abbrev J_spec_DrawRunDeadline_r : JT := jn [] [] []
noncomputable def O_spec_DrawRunDeadline_r (N : Nat) : Orc E := addFn 19 (o_spec_l01Src_tasks_Wr N) (addFn 18 (o_spec_l01Src_one_Wr N) (addFn 17 (o_spec_l01Src_n_Wr N) (addFn 16 (o_spec_l01Source_r N) (noFn))))
noncomputable def pa_spec_DrawRunDeadline_r__o_spec_l01Src_tasks_Wr (N : Nat) (G_spec_l01Src_tasks_Wr : ∀ {R : Type} (b : Bool) (n : Int) (n1 : Int) (n2 : Int) (l : List Int) (k : Bool → Int → Int → (List RtTask) → Option R), Option R) {R : Type} (args : List AV) (H : Hp E) (K : AV → Hp E → Option R) : Option R :=
 match args, H with
 | [(AV.sc (SV.ptr 0 0 0))], [(some (HE.mk false (HB.exp none [(SV.slc 1 none b), (SV.int IntKind.i64 n), (SV.int IntKind.u64 n1), (SV.int IntKind.i64 n2)]))), (some (HE.mk true (HB.rows (B.u8 l))))] => G_spec_l01Src_tasks_Wr b n n1 n2 l (fun b14 n62 n63 l4 => K (AV.sc (SV.slc 2 none b14)) [(some (HE.mk false (HB.exp none [(SV.slc 1 none b), (SV.int IntKind.i64 n62), (SV.int IntKind.u64 n63), (SV.int IntKind.i64 n2)]))), (some (HE.mk true (HB.rows (B.u8 l)))), (some (HE.mk false (HB.rows (B.iRtTask l4))))])
 | _, _ => none
noncomputable def pa_spec_DrawRunDeadline_r__o_spec_l01Src_one_Wr (N : Nat) (G_spec_l01Src_one_Wr : ∀ {R : Type} (n : Int) (b : Bool) (n1 : Int) (n2 : Int) (n3 : Int) (l : List Int) (k : Bool → Int → Int → Option R), Option R) {R : Type} (args : List AV) (H : Hp E) (K : AV → Hp E → Option R) : Option R :=
 match args, H with
 | [(AV.sc (SV.ptr 0 0 0)), (AV.sc (SV.int IntKind.i64 n))], [(some (HE.mk false (HB.exp none [(SV.slc 1 none b), (SV.int IntKind.i64 n1), (SV.int IntKind.u64 n2), (SV.int IntKind.i64 n3)]))), (some (HE.mk true (HB.rows (B.u8 l))))] => G_spec_l01Src_one_Wr n b n1 n2 n3 l (fun b1 n7 n8 => K (AV.sc (SV.bool b1)) [(some (HE.mk false (HB.exp none [(SV.slc 1 none b), (SV.int IntKind.i64 n7), (SV.int IntKind.u64 n8), (SV.int IntKind.i64 n3)]))), (some (HE.mk true (HB.rows (B.u8 l))))])
 | _, _ => none
noncomputable def pa_spec_DrawRunDeadline_r__o_spec_l01Src_n_Wr (N : Nat) (G_spec_l01Src_n_Wr : ∀ {R : Type} (n : Int) (b : Bool) (n1 : Int) (n2 : Int) (n3 : Int) (l : List Int) (k : Int → Int → Int → Option R), Option R) {R : Type} (args : List AV) (H : Hp E) (K : AV → Hp E → Option R) : Option R :=
 match args, H with
 | [(AV.sc (SV.ptr 0 0 0)), (AV.sc (SV.int IntKind.i64 n))], [(some (HE.mk false (HB.exp none [(SV.slc 1 none b), (SV.int IntKind.i64 n1), (SV.int IntKind.u64 n2), (SV.int IntKind.i64 n3)]))), (some (HE.mk true (HB.rows (B.u8 l))))] => G_spec_l01Src_n_Wr n b n1 n2 n3 l (fun n4 n5 n6 => K (AV.sc (SV.int IntKind.i64 n4)) [(some (HE.mk false (HB.exp none [(SV.slc 1 none b), (SV.int IntKind.i64 n5), (SV.int IntKind.u64 n6), (SV.int IntKind.i64 n3)]))), (some (HE.mk true (HB.rows (B.u8 l))))])
 | _, _ => none
noncomputable def pa_spec_DrawRunDeadline_r__o_spec_l01Source_r (N : Nat) (G_spec_l01Source_r : ∀ {R : Type} (b : Bool) (l : List Int) (k : Int → Int → Option R), Option R) {R : Type} (args : List AV) (H : Hp E) (K : AV → Hp E → Option R) : Option R :=
 match args, H with
 | [(AV.sc (SV.slc 0 none b))], [(some (HE.mk true (HB.rows (B.u8 l))))] => G_spec_l01Source_r b l (fun n5 n6 => K (AV.sc (SV.ptr 1 0 0)) [(some (HE.mk true (HB.rows (B.u8 l)))), (some (HE.mk false (HB.exp none [(SV.slc 0 none b), (SV.int IntKind.i64 (0 : Int)), (SV.int IntKind.u64 n5), (SV.int IntKind.i64 n6)])))])
 | _, _ => none
noncomputable def OA_spec_DrawRunDeadline_r (N : Nat) (G_spec_l01Src_tasks_Wr : ∀ {R : Type} (b : Bool) (n : Int) (n1 : Int) (n2 : Int) (l : List Int) (k : Bool → Int → Int → (List RtTask) → Option R), Option R) (G_spec_l01Src_one_Wr : ∀ {R : Type} (n : Int) (b : Bool) (n1 : Int) (n2 : Int) (n3 : Int) (l : List Int) (k : Bool → Int → Int → Option R), Option R) (G_spec_l01Src_n_Wr : ∀ {R : Type} (n : Int) (b : Bool) (n1 : Int) (n2 : Int) (n3 : Int) (l : List Int) (k : Int → Int → Int → Option R), Option R) (G_spec_l01Source_r : ∀ {R : Type} (b : Bool) (l : List Int) (k : Int → Int → Option R), Option R) : Orc E := addFn 19 (pa_spec_DrawRunDeadline_r__o_spec_l01Src_tasks_Wr N G_spec_l01Src_tasks_Wr) (addFn 18 (pa_spec_DrawRunDeadline_r__o_spec_l01Src_one_Wr N G_spec_l01Src_one_Wr) (addFn 17 (pa_spec_DrawRunDeadline_r__o_spec_l01Src_n_Wr N G_spec_l01Src_n_Wr) (addFn 16 (pa_spec_DrawRunDeadline_r__o_spec_l01Source_r N G_spec_l01Source_r) (noFn))))
theorem O_spec_DrawRunDeadline_r_ok (N : Nat) : OrcOk (O_spec_DrawRunDeadline_r N) := addFn_ok (o_spec_l01Src_tasks_Wr_ok N) (addFn_ok (o_spec_l01Src_one_Wr_ok N) (addFn_ok (o_spec_l01Src_n_Wr_ok N) (addFn_ok (o_spec_l01Source_r_ok N) (noFn_ok))))
noncomputable def g_spec_DrawRunDeadline_r (N : Nat) {R : Type} (b : Bool) (l : List Int) (k : Bool → Int → (List RtTask) → Option R) : Option R :=
 (g_spec_l01Source_r N b l fun n n1 =>
 (g_spec_l01Src_n_Wr N (80 : Int) b (0 : Int) n n1 l fun n2 n3 n4 =>
 (g_spec_l01Src_one_Wr N (15 : Int) b n3 n4 n1 l fun b1 n5 n6 =>
 (cond b1
 (g_spec_l01Src_n_Wr N (3 : Int) b n5 n6 n1 l fun n7 n8 n9 =>
 (cond ((decide (((0 : Int) ≤ n7))) && (decide ((n7 < (3 : Int)))))
 (elemK [(-(1 : Int)), (1000 : Int), (1001 : Int)] (Int.toNat n7) fun x =>
 (g_spec_l01Src_tasks_Wr N b n8 n9 n1 l fun b2 n10 n11 l1 =>
 (k b2 x l1)))
 none))
 (g_spec_l01Src_tasks_Wr N b n5 n6 n1 l fun b3 n12 n13 l2 =>
 (k b3 n2 l2))))))
noncomputable def ga_g_spec_DrawRunDeadline_r (N : Nat) (G_spec_l01Src_tasks_Wr : ∀ {R : Type} (b : Bool) (n : Int) (n1 : Int) (n2 : Int) (l : List Int) (k : Bool → Int → Int → (List RtTask) → Option R), Option R) (G_spec_l01Src_one_Wr : ∀ {R : Type} (n : Int) (b : Bool) (n1 : Int) (n2 : Int) (n3 : Int) (l : List Int) (k : Bool → Int → Int → Option R), Option R) (G_spec_l01Src_n_Wr : ∀ {R : Type} (n : Int) (b : Bool) (n1 : Int) (n2 : Int) (n3 : Int) (l : List Int) (k : Int → Int → Int → Option R), Option R) (G_spec_l01Source_r : ∀ {R : Type} (b : Bool) (l : List Int) (k : Int → Int → Option R), Option R) {R : Type} (b : Bool) (l : List Int) (k : Bool → Int → (List RtTask) → Option R) : Option R :=
 (G_spec_l01Source_r b l fun n n1 =>
 (G_spec_l01Src_n_Wr (80 : Int) b (0 : Int) n n1 l fun n2 n3 n4 =>
 (G_spec_l01Src_one_Wr (15 : Int) b n3 n4 n1 l fun b1 n5 n6 =>
 (cond b1
 (G_spec_l01Src_n_Wr (3 : Int) b n5 n6 n1 l fun n7 n8 n9 =>
 (cond ((decide (((0 : Int) ≤ n7))) && (decide ((n7 < (3 : Int)))))
 (elemK [(-(1 : Int)), (1000 : Int), (1001 : Int)] (Int.toNat n7) fun x =>
 (G_spec_l01Src_tasks_Wr b n8 n9 n1 l fun b2 n10 n11 l1 =>
 (k b2 x l1)))
 none))
 (G_spec_l01Src_tasks_Wr b n5 n6 n1 l fun b3 n12 n13 l2 =>
 (k b3 n2 l2))))))
theorem ea_e_spec_DrawRunDeadline_r (N : Nat) (G_spec_l01Src_tasks_Wr : ∀ {R : Type} (b : Bool) (n : Int) (n1 : Int) (n2 : Int) (l : List Int) (k : Bool → Int → Int → (List RtTask) → Option R), Option R) (G_spec_l01Src_one_Wr : ∀ {R : Type} (n : Int) (b : Bool) (n1 : Int) (n2 : Int) (n3 : Int) (l : List Int) (k : Bool → Int → Int → Option R), Option R) (G_spec_l01Src_n_Wr : ∀ {R : Type} (n : Int) (b : Bool) (n1 : Int) (n2 : Int) (n3 : Int) (l : List Int) (k : Int → Int → Int → Option R), Option R) (G_spec_l01Source_r : ∀ {R : Type} (b : Bool) (l : List Int) (k : Int → Int → Option R), Option R) {R : Type} (b : Bool) (l : List Int) (K : AV → Hp E → Option R) :
    runFnI (E := E) (OA_spec_DrawRunDeadline_r N G_spec_l01Src_tasks_Wr G_spec_l01Src_one_Wr G_spec_l01Src_n_Wr G_spec_l01Source_r) (noIt) sl_spec_DrawRunDeadline_r J_spec_DrawRunDeadline_r Try.f5 [(AV.sc (SV.slc 0 none b))] [(some (HE.mk true (HB.rows (B.u8 l))))] K =
      ga_g_spec_DrawRunDeadline_r N G_spec_l01Src_tasks_Wr G_spec_l01Src_one_Wr G_spec_l01Src_n_Wr G_spec_l01Source_r b l (fun b4 n14 l3 => K (AV.tup [(false, [(SV.slc 1 none b4)]), (false, [(SV.int IntKind.i64 n14)])]) [(some (HE.mk true (HB.rows (B.u8 l)))), (some (HE.mk false (HB.rows (B.iRtTask l3))))]) := by kernel_rfl
theorem e_spec_DrawRunDeadline_r (N : Nat) {R : Type} (b : Bool) (l : List Int) (K : AV → Hp E → Option R) :
    runFnI (E := E) (O_spec_DrawRunDeadline_r N) (noIt) sl_spec_DrawRunDeadline_r J_spec_DrawRunDeadline_r Try.f5 [(AV.sc (SV.slc 0 none b))] [(some (HE.mk true (HB.rows (B.u8 l))))] K =
      g_spec_DrawRunDeadline_r N b l (fun b4 n14 l3 => K (AV.tup [(false, [(SV.slc 1 none b4)]), (false, [(SV.int IntKind.i64 n14)])]) [(some (HE.mk true (HB.rows (B.u8 l)))), (some (HE.mk false (HB.rows (B.iRtTask l3))))]) := castPr (by kernel_rfl) (ea_e_spec_DrawRunDeadline_r N (g_spec_l01Src_tasks_Wr N) (g_spec_l01Src_one_Wr N) (g_spec_l01Src_n_Wr N) (g_spec_l01Source_r N) b l K)
noncomputable def o_spec_DrawRunDeadline_r (N : Nat) {R : Type} (args : List AV) (H : Hp E) (K : AV → Hp E → Option R) : Option R :=
 match args, H with
 | [(AV.sc (SV.slc 0 none b))], [(some (HE.mk true (HB.rows (B.u8 l))))] => g_spec_DrawRunDeadline_r N b l (fun b4 n14 l3 => K (AV.tup [(false, [(SV.slc 1 none b4)]), (false, [(SV.int IntKind.i64 n14)])]) [(some (HE.mk true (HB.rows (B.u8 l)))), (some (HE.mk false (HB.rows (B.iRtTask l3))))])
 | _, _ => none
theorem o_spec_DrawRunDeadline_r_ok (N : Nat) : FnOk E 5 (o_spec_DrawRunDeadline_r N) := by
  intro R args H K r h
  unfold o_spec_DrawRunDeadline_r at h
  dsimp only at h
  split at h
  · exact fnB_ok (ids := []) (top := []) ok (O_spec_DrawRunDeadline_r_ok N) (jn_ok _ _ _) Try.func5 (by kernel_rfl) (IT := noIt) (sl := sl_spec_DrawRunDeadline_r) (J := J_spec_DrawRunDeadline_r) (K := K) (H := [(some (HE.mk true (HB.rows (B.u8 _))))]) (noIt_ok) (by kernel_rfl) rfl ((e_spec_DrawRunDeadline_r N _ _ K).trans h)
  · cases h
end Go.Sa
