import Derived.Test.YtmmgjioemnhoaaaSpec
import Derived.Test.YtmmgjioemnhoaaaPLb
set_option linter.all false
namespace Go.Sa
open Go Go.Eng Go.Proofs
set_option maxRecDepth 100000
/-! ### loop.example/g00038/spec.l01Source -/
abbrev sl_spec_l01Source_r : SlotT := [(0, ([0, 3, 4], [0, 3]))]
abbrev J_spec_l01Source_r : JT := jn [(3, [(15, .b)])] [] []
noncomputable def O_spec_l01Source_r (N : Nat) : Orc E := noFn
theorem O_spec_l01Source_r_ok (N : Nat) : OrcOk (O_spec_l01Source_r N) := noFn_ok
def s_spec_l01Source_r_0 (N : Nat) {R : Type} (b1 : Bool) (l1 : List Int) (b2 : Bool) (n1 : Int) (n3 : Int) (n : Int) (n2 : Int) (ag : Int → Int → Option R)  (kN : Int → Option R) : Option R :=
  (oK (cond (decide ((n < (((List.length l1) : Nat) : Int))))
    (some (decide ((n < (64 : Int)))))
    (some Bool.false)) fun j =>
  (cond j
  (cond ((decide (((0 : Int) ≤ n))) && (decide ((n < (((List.length l1) : Nat) : Int)))))
    (elemK l1 (Int.toNat n) fun x =>
      (ag (Go.IntKind.wrap Go.IntKind.i64 (n + (1 : Int))) (Go.IntKind.wrap Go.IntKind.u64 ((Go.IntKind.wrap Go.IntKind.u64 (((BitVec.toNat ((BitVec.ofInt 64 n2) ^^^ (BitVec.ofInt 64 (Go.IntKind.wrap Go.IntKind.u64 x)))) : Nat) : Int)) * (1099511628211 : Int)))))
    none)
  (kN n2)))
def l_spec_l01Source_r_0 (N : Nat) {R : Type} (b1 : Bool) (l1 : List Int) (b2 : Bool) (n1 : Int) (n3 : Int) (kN : Int → Option R) : Nat → Int → Int → Option R
  | 0, _, _ => none
  | f + 1, n, n2 => s_spec_l01Source_r_0 N b1 l1 b2 n1 n3 n n2 (fun n n2 => l_spec_l01Source_r_0 N b1 l1 b2 n1 n3 kN f n n2)  kN
def c_spec_l01Source_r_0 (N : Nat) {R : Type} (b1 : Bool) (l1 : List Int) (b2 : Bool) (n1 : Int) (n3 : Int) (n : Int) (n2 : Int) (kN : Int → Option R) : Option R := l_spec_l01Source_r_0 N b1 l1 b2 n1 n3 kN N n n2
theorem se_spec_l01Source_r_0 (N : Nat) {R : Type} (b1 : Bool) (l1 : List Int) (b2 : Bool) (n1 : Int) (n3 : Int) (n : Int) (n2 : Int) (AG : List (Option AV) → Hp E → Option R) (KL : Ex → List (Option AV) → Hp E → Option R) :
    iterStep (E := E) (O_spec_l01Source_r N) (fun {R} => LI (noIt) 1 46 sl_spec_l01Source_r (R := R)) J_spec_l01Source_r 1 46 0 [0, 3, 4] [0, 3] (body Go.Proofs.Try.f61 0) AG KL [(Option.some (Go.Eng.AV.sc (Go.Eng.SV.slc 0 Option.none b1))), (Option.some (Go.Eng.AV.sc (Go.Eng.SV.ptr 1 0 0))), (Option.some (Go.Eng.AV.sc (Go.Eng.SV.int Go.IntKind.i64 n)))] [(Option.some (Go.Eng.HE.mk Bool.true (Go.Eng.HB.rows (Go.Sa.B.u8 l1)))), (Option.some (Go.Eng.HE.mk Bool.false (Go.Eng.HB.exp Option.none [(Go.Eng.SV.slc 0 Option.none b2), (Go.Eng.SV.int Go.IntKind.i64 n1), (Go.Eng.SV.int Go.IntKind.u64 n2), (Go.Eng.SV.int Go.IntKind.i64 n3)])))] =
      s_spec_l01Source_r_0 N b1 l1 b2 n1 n3 n n2 (fun n n2 => AG [(Option.some (Go.Eng.AV.sc (Go.Eng.SV.slc 0 Option.none b1))), (Option.some (Go.Eng.AV.sc (Go.Eng.SV.ptr 1 0 0))), (Option.some (Go.Eng.AV.sc (Go.Eng.SV.int Go.IntKind.i64 n)))] [(Option.some (Go.Eng.HE.mk Bool.true (Go.Eng.HB.rows (Go.Sa.B.u8 l1)))), (Option.some (Go.Eng.HE.mk Bool.false (Go.Eng.HB.exp Option.none [(Go.Eng.SV.slc 0 Option.none b2), (Go.Eng.SV.int Go.IntKind.i64 n1), (Go.Eng.SV.int Go.IntKind.u64 n2), (Go.Eng.SV.int Go.IntKind.i64 n3)])))])  (fun n7 => KL Go.Eng.Ex.normal [(Option.some (Go.Eng.AV.sc (Go.Eng.SV.slc 0 Option.none b1))), (Option.some (Go.Eng.AV.sc (Go.Eng.SV.ptr 1 0 0)))] [(Option.some (Go.Eng.HE.mk Bool.true (Go.Eng.HB.rows (Go.Sa.B.u8 l1)))), (Option.some (Go.Eng.HE.mk Bool.false (Go.Eng.HB.exp Option.none [(Go.Eng.SV.slc 0 Option.none b2), (Go.Eng.SV.int Go.IntKind.i64 n1), (Go.Eng.SV.int Go.IntKind.u64 n7), (Go.Eng.SV.int Go.IntKind.i64 n3)])))]) := by kernel_rfl
theorem le_spec_l01Source_r_0 (N : Nat) {R : Type} (b1 : Bool) (l1 : List Int) (b2 : Bool) (n1 : Int) (n3 : Int) (KL : Ex → List (Option AV) → Hp E → Option R) : ∀ (f : Nat), ∀ (n : Int) (n2 : Int), iterK (E := E) (O_spec_l01Source_r N) (fun {R} => LI (noIt) 1 46 sl_spec_l01Source_r (R := R)) J_spec_l01Source_r 1 46 0 [0, 3, 4] [0, 3] (body Go.Proofs.Try.f61 0) f [(Option.some (Go.Eng.AV.sc (Go.Eng.SV.slc 0 Option.none b1))), (Option.some (Go.Eng.AV.sc (Go.Eng.SV.ptr 1 0 0))), (Option.some (Go.Eng.AV.sc (Go.Eng.SV.int Go.IntKind.i64 n)))] [(Option.some (Go.Eng.HE.mk Bool.true (Go.Eng.HB.rows (Go.Sa.B.u8 l1)))), (Option.some (Go.Eng.HE.mk Bool.false (Go.Eng.HB.exp Option.none [(Go.Eng.SV.slc 0 Option.none b2), (Go.Eng.SV.int Go.IntKind.i64 n1), (Go.Eng.SV.int Go.IntKind.u64 n2), (Go.Eng.SV.int Go.IntKind.i64 n3)])))] KL = l_spec_l01Source_r_0 N b1 l1 b2 n1 n3 (fun n7 => KL Go.Eng.Ex.normal [(Option.some (Go.Eng.AV.sc (Go.Eng.SV.slc 0 Option.none b1))), (Option.some (Go.Eng.AV.sc (Go.Eng.SV.ptr 1 0 0)))] [(Option.some (Go.Eng.HE.mk Bool.true (Go.Eng.HB.rows (Go.Sa.B.u8 l1)))), (Option.some (Go.Eng.HE.mk Bool.false (Go.Eng.HB.exp Option.none [(Go.Eng.SV.slc 0 Option.none b2), (Go.Eng.SV.int Go.IntKind.i64 n1), (Go.Eng.SV.int Go.IntKind.u64 n7), (Go.Eng.SV.int Go.IntKind.i64 n3)])))]) f n n2 := by
  intro f
  induction f with
  | zero => intros; rfl
  | succ f ih =>
    intro n n2
    rw [iterK_succ, se_spec_l01Source_r_0]
    exact (congrArg (fun z0 => s_spec_l01Source_r_0 N b1 l1 b2 n1 n3 n n2 z0 (fun n7 => KL Go.Eng.Ex.normal [(Option.some (Go.Eng.AV.sc (Go.Eng.SV.slc 0 Option.none b1))), (Option.some (Go.Eng.AV.sc (Go.Eng.SV.ptr 1 0 0)))] [(Option.some (Go.Eng.HE.mk Bool.true (Go.Eng.HB.rows (Go.Sa.B.u8 l1)))), (Option.some (Go.Eng.HE.mk Bool.false (Go.Eng.HB.exp Option.none [(Go.Eng.SV.slc 0 Option.none b2), (Go.Eng.SV.int Go.IntKind.i64 n1), (Go.Eng.SV.int Go.IntKind.u64 n7), (Go.Eng.SV.int Go.IntKind.i64 n3)])))])) (funext fun n => funext fun n2 => ih n n2))
def i_spec_l01Source_r_0 (N : Nat) {R : Type} (vs : List (Option AV)) (H : Hp E) (KL : Ex → List (Option AV) → Hp E → Option R) : Option R :=
  match vs, H with
  | [(Option.some (Go.Eng.AV.sc (Go.Eng.SV.slc 0 Option.none b1))), (Option.some (Go.Eng.AV.sc (Go.Eng.SV.ptr 1 0 0))), (Option.some (Go.Eng.AV.sc (Go.Eng.SV.int Go.IntKind.i64 n)))], [(Option.some (Go.Eng.HE.mk Bool.true (Go.Eng.HB.rows (Go.Sa.B.u8 l1)))), (Option.some (Go.Eng.HE.mk Bool.false (Go.Eng.HB.exp Option.none [(Go.Eng.SV.slc 0 Option.none b2), (Go.Eng.SV.int Go.IntKind.i64 n1), (Go.Eng.SV.int Go.IntKind.u64 n2), (Go.Eng.SV.int Go.IntKind.i64 n3)])))] => c_spec_l01Source_r_0 N b1 l1 b2 n1 n3 n n2 (fun n8 => KL Go.Eng.Ex.normal [(Option.some (Go.Eng.AV.sc (Go.Eng.SV.slc 0 Option.none b1))), (Option.some (Go.Eng.AV.sc (Go.Eng.SV.ptr 1 0 0)))] [(Option.some (Go.Eng.HE.mk Bool.true (Go.Eng.HB.rows (Go.Sa.B.u8 l1)))), (Option.some (Go.Eng.HE.mk Bool.false (Go.Eng.HB.exp Option.none [(Go.Eng.SV.slc 0 Option.none b2), (Go.Eng.SV.int Go.IntKind.i64 n1), (Go.Eng.SV.int Go.IntKind.u64 n8), (Go.Eng.SV.int Go.IntKind.i64 n3)])))])
  | _, _ => none
noncomputable def IT_spec_l01Source_r_0 (N : Nat) : Its E := addIt 0 (i_spec_l01Source_r_0 N) (noIt)
theorem IT_spec_l01Source_r_0_ok (N : Nat) : ItOk (IT_spec_l01Source_r_0 N) 1 46 sl_spec_l01Source_r (lsB Go.Proofs.Try.f61 [0]) :=
  addItB_ok (inner := []) ok (O_spec_l01Source_r_ok N) (jn_ok _ _ _) (noIt_ok) rfl (by kernel_rfl) rfl fun vs H KL r h => by
    unfold i_spec_l01Source_r_0 at h
    split at h
    · exact ⟨_, (le_spec_l01Source_r_0 N _ _ _ _ _ KL N _ _).trans h⟩
    · cases h
def g_spec_l01Source_r (N : Nat) {R : Type} (b : Bool) (l : List Int) (k : Int → Int → Option R) : Option R :=
  (c_spec_l01Source_r_0 N b l b (0 : Int) (0 : Int) (0 : Int) (88172645463325252 : Int) fun n4 =>
  (cond (decide (((((List.length l) : Nat) : Int) > (12 : Int))))
  (k n4 (12 : Int))
  (k n4 (((List.length l) : Nat) : Int))))
theorem e_spec_l01Source_r (N : Nat) {R : Type} (b : Bool) (l : List Int) (K : AV → Hp E → Option R) :
    runFnI (E := E) (O_spec_l01Source_r N) (IT_spec_l01Source_r_0 N) sl_spec_l01Source_r J_spec_l01Source_r Go.Proofs.Try.f61 [(Go.Eng.AV.sc (Go.Eng.SV.slc 0 Option.none b))] [(Option.some (Go.Eng.HE.mk Bool.true (Go.Eng.HB.rows (Go.Sa.B.u8 l))))] K =
      g_spec_l01Source_r N b l (fun n5 n6 => K (Go.Eng.AV.sc (Go.Eng.SV.ptr 1 0 0)) [(Option.some (Go.Eng.HE.mk Bool.true (Go.Eng.HB.rows (Go.Sa.B.u8 l)))), (Option.some (Go.Eng.HE.mk Bool.false (Go.Eng.HB.exp Option.none [(Go.Eng.SV.slc 0 Option.none b), (Go.Eng.SV.int Go.IntKind.i64 (0 : Int)), (Go.Eng.SV.int Go.IntKind.u64 n5), (Go.Eng.SV.int Go.IntKind.i64 n6)])))]) := by kernel_rfl
def o_spec_l01Source_r (N : Nat) {R : Type} (args : List AV) (H : Hp E) (K : AV → Hp E → Option R) : Option R :=
  match args, H with
  | [(Go.Eng.AV.sc (Go.Eng.SV.slc 0 Option.none b))], [(Option.some (Go.Eng.HE.mk Bool.true (Go.Eng.HB.rows (Go.Sa.B.u8 l))))] => g_spec_l01Source_r N b l (fun n5 n6 => K (Go.Eng.AV.sc (Go.Eng.SV.ptr 1 0 0)) [(Option.some (Go.Eng.HE.mk Bool.true (Go.Eng.HB.rows (Go.Sa.B.u8 l)))), (Option.some (Go.Eng.HE.mk Bool.false (Go.Eng.HB.exp Option.none [(Go.Eng.SV.slc 0 Option.none b), (Go.Eng.SV.int Go.IntKind.i64 (0 : Int)), (Go.Eng.SV.int Go.IntKind.u64 n5), (Go.Eng.SV.int Go.IntKind.i64 n6)])))])
  | _, _ => none
theorem o_spec_l01Source_r_ok (N : Nat) : FnOk E 61 (o_spec_l01Source_r N) := by
  intro R args H K r h
  unfold o_spec_l01Source_r at h
  dsimp only at h
  split at h
  · exact fnB_ok (ids := [0]) (top := [0]) ok (O_spec_l01Source_r_ok N) (jn_ok _ _ _) Go.Proofs.Try.func61 (by kernel_rfl) (IT := IT_spec_l01Source_r_0 N) (sl := sl_spec_l01Source_r) (J := J_spec_l01Source_r) (K := K) (H := [(Option.some (Go.Eng.HE.mk Bool.true (Go.Eng.HB.rows (Go.Sa.B.u8 _))))]) (IT_spec_l01Source_r_0_ok N) (by kernel_rfl) rfl ((e_spec_l01Source_r N _ _ K).trans h)
  · cases h
/-! ### (*loop.example/g00038/spec.l01Src).n -/
abbrev sl_spec_l01Src_n_Wr : SlotT := []
abbrev J_spec_l01Src_n_Wr : JT := jn [] [] []
noncomputable def O_spec_l01Src_n_Wr (N : Nat) : Orc E := noFn
theorem O_spec_l01Src_n_Wr_ok (N : Nat) : OrcOk (O_spec_l01Src_n_Wr N) := noFn_ok
def g_spec_l01Src_n_Wr (N : Nat) {R : Type} (n : Int) (b : Bool) (n1 : Int) (n2 : Int) (n3 : Int) (l : List Int) (k : Int → Int → Int → Option R) : Option R :=
  (cond (decide ((n ≤ (1 : Int))))
  (k (0 : Int) n1 n2)
  (cond (decide ((n1 < (((List.length l) : Nat) : Int))))
    (cond ((decide (((0 : Int) ≤ n1))) && (decide ((n1 < (((List.length l) : Nat) : Int)))))
      (elemK l (Int.toNat n1) fun x =>
        (cond ((Go.IntKind.wrap Go.IntKind.u64 n) == (0 : Int))
        none
        (k (Go.IntKind.wrap Go.IntKind.i64 (Int.tmod (Go.IntKind.wrap Go.IntKind.u64 ((Go.IntKind.wrap Go.IntKind.u64 x) + (Int.fdiv (Go.IntKind.wrap Go.IntKind.u64 (((BitVec.toNat ((BitVec.ofInt 64 (Go.IntKind.wrap Go.IntKind.u64 (((BitVec.toNat ((BitVec.ofInt 64 (Go.IntKind.wrap Go.IntKind.u64 (((BitVec.toNat ((BitVec.ofInt 64 n2) ^^^ (BitVec.ofInt 64 (Go.IntKind.wrap Go.IntKind.u64 (n2 * (8192 : Int)))))) : Nat) : Int))) ^^^ (BitVec.ofInt 64 (Int.fdiv (Go.IntKind.wrap Go.IntKind.u64 (((BitVec.toNat ((BitVec.ofInt 64 n2) ^^^ (BitVec.ofInt 64 (Go.IntKind.wrap Go.IntKind.u64 (n2 * (8192 : Int)))))) : Nat) : Int)) (128 : Int))))) : Nat) : Int))) ^^^ (BitVec.ofInt 64 (Go.IntKind.wrap Go.IntKind.u64 ((Go.IntKind.wrap Go.IntKind.u64 (((BitVec.toNat ((BitVec.ofInt 64 (Go.IntKind.wrap Go.IntKind.u64 (((BitVec.toNat ((BitVec.ofInt 64 n2) ^^^ (BitVec.ofInt 64 (Go.IntKind.wrap Go.IntKind.u64 (n2 * (8192 : Int)))))) : Nat) : Int))) ^^^ (BitVec.ofInt 64 (Int.fdiv (Go.IntKind.wrap Go.IntKind.u64 (((BitVec.toNat ((BitVec.ofInt 64 n2) ^^^ (BitVec.ofInt 64 (Go.IntKind.wrap Go.IntKind.u64 (n2 * (8192 : Int)))))) : Nat) : Int)) (128 : Int))))) : Nat) : Int)) * (131072 : Int)))))) : Nat) : Int)) (1048576 : Int)))) (Go.IntKind.wrap Go.IntKind.u64 n))) (Go.IntKind.wrap Go.IntKind.i64 (n1 + (1 : Int))) (Go.IntKind.wrap Go.IntKind.u64 (((BitVec.toNat ((BitVec.ofInt 64 (Go.IntKind.wrap Go.IntKind.u64 (((BitVec.toNat ((BitVec.ofInt 64 (Go.IntKind.wrap Go.IntKind.u64 (((BitVec.toNat ((BitVec.ofInt 64 n2) ^^^ (BitVec.ofInt 64 (Go.IntKind.wrap Go.IntKind.u64 (n2 * (8192 : Int)))))) : Nat) : Int))) ^^^ (BitVec.ofInt 64 (Int.fdiv (Go.IntKind.wrap Go.IntKind.u64 (((BitVec.toNat ((BitVec.ofInt 64 n2) ^^^ (BitVec.ofInt 64 (Go.IntKind.wrap Go.IntKind.u64 (n2 * (8192 : Int)))))) : Nat) : Int)) (128 : Int))))) : Nat) : Int))) ^^^ (BitVec.ofInt 64 (Go.IntKind.wrap Go.IntKind.u64 ((Go.IntKind.wrap Go.IntKind.u64 (((BitVec.toNat ((BitVec.ofInt 64 (Go.IntKind.wrap Go.IntKind.u64 (((BitVec.toNat ((BitVec.ofInt 64 n2) ^^^ (BitVec.ofInt 64 (Go.IntKind.wrap Go.IntKind.u64 (n2 * (8192 : Int)))))) : Nat) : Int))) ^^^ (BitVec.ofInt 64 (Int.fdiv (Go.IntKind.wrap Go.IntKind.u64 (((BitVec.toNat ((BitVec.ofInt 64 n2) ^^^ (BitVec.ofInt 64 (Go.IntKind.wrap Go.IntKind.u64 (n2 * (8192 : Int)))))) : Nat) : Int)) (128 : Int))))) : Nat) : Int)) * (131072 : Int)))))) : Nat) : Int)))))
      none)
    (cond ((Go.IntKind.wrap Go.IntKind.u64 n) == (0 : Int))
      none
      (k (Go.IntKind.wrap Go.IntKind.i64 (Int.tmod (Go.IntKind.wrap Go.IntKind.u64 ((0 : Int) + (Int.fdiv (Go.IntKind.wrap Go.IntKind.u64 (((BitVec.toNat ((BitVec.ofInt 64 (Go.IntKind.wrap Go.IntKind.u64 (((BitVec.toNat ((BitVec.ofInt 64 (Go.IntKind.wrap Go.IntKind.u64 (((BitVec.toNat ((BitVec.ofInt 64 n2) ^^^ (BitVec.ofInt 64 (Go.IntKind.wrap Go.IntKind.u64 (n2 * (8192 : Int)))))) : Nat) : Int))) ^^^ (BitVec.ofInt 64 (Int.fdiv (Go.IntKind.wrap Go.IntKind.u64 (((BitVec.toNat ((BitVec.ofInt 64 n2) ^^^ (BitVec.ofInt 64 (Go.IntKind.wrap Go.IntKind.u64 (n2 * (8192 : Int)))))) : Nat) : Int)) (128 : Int))))) : Nat) : Int))) ^^^ (BitVec.ofInt 64 (Go.IntKind.wrap Go.IntKind.u64 ((Go.IntKind.wrap Go.IntKind.u64 (((BitVec.toNat ((BitVec.ofInt 64 (Go.IntKind.wrap Go.IntKind.u64 (((BitVec.toNat ((BitVec.ofInt 64 n2) ^^^ (BitVec.ofInt 64 (Go.IntKind.wrap Go.IntKind.u64 (n2 * (8192 : Int)))))) : Nat) : Int))) ^^^ (BitVec.ofInt 64 (Int.fdiv (Go.IntKind.wrap Go.IntKind.u64 (((BitVec.toNat ((BitVec.ofInt 64 n2) ^^^ (BitVec.ofInt 64 (Go.IntKind.wrap Go.IntKind.u64 (n2 * (8192 : Int)))))) : Nat) : Int)) (128 : Int))))) : Nat) : Int)) * (131072 : Int)))))) : Nat) : Int)) (1048576 : Int)))) (Go.IntKind.wrap Go.IntKind.u64 n))) n1 (Go.IntKind.wrap Go.IntKind.u64 (((BitVec.toNat ((BitVec.ofInt 64 (Go.IntKind.wrap Go.IntKind.u64 (((BitVec.toNat ((BitVec.ofInt 64 (Go.IntKind.wrap Go.IntKind.u64 (((BitVec.toNat ((BitVec.ofInt 64 n2) ^^^ (BitVec.ofInt 64 (Go.IntKind.wrap Go.IntKind.u64 (n2 * (8192 : Int)))))) : Nat) : Int))) ^^^ (BitVec.ofInt 64 (Int.fdiv (Go.IntKind.wrap Go.IntKind.u64 (((BitVec.toNat ((BitVec.ofInt 64 n2) ^^^ (BitVec.ofInt 64 (Go.IntKind.wrap Go.IntKind.u64 (n2 * (8192 : Int)))))) : Nat) : Int)) (128 : Int))))) : Nat) : Int))) ^^^ (BitVec.ofInt 64 (Go.IntKind.wrap Go.IntKind.u64 ((Go.IntKind.wrap Go.IntKind.u64 (((BitVec.toNat ((BitVec.ofInt 64 (Go.IntKind.wrap Go.IntKind.u64 (((BitVec.toNat ((BitVec.ofInt 64 n2) ^^^ (BitVec.ofInt 64 (Go.IntKind.wrap Go.IntKind.u64 (n2 * (8192 : Int)))))) : Nat) : Int))) ^^^ (BitVec.ofInt 64 (Int.fdiv (Go.IntKind.wrap Go.IntKind.u64 (((BitVec.toNat ((BitVec.ofInt 64 n2) ^^^ (BitVec.ofInt 64 (Go.IntKind.wrap Go.IntKind.u64 (n2 * (8192 : Int)))))) : Nat) : Int)) (128 : Int))))) : Nat) : Int)) * (131072 : Int)))))) : Nat) : Int))))))
theorem e_spec_l01Src_n_Wr (N : Nat) {R : Type} (n : Int) (b : Bool) (n1 : Int) (n2 : Int) (n3 : Int) (l : List Int) (K : AV → Hp E → Option R) :
    runFnI (E := E) (O_spec_l01Src_n_Wr N) (noIt) sl_spec_l01Src_n_Wr J_spec_l01Src_n_Wr Go.Proofs.Try.f91 [(Go.Eng.AV.sc (Go.Eng.SV.ptr 0 0 0)), (Go.Eng.AV.sc (Go.Eng.SV.int Go.IntKind.i64 n))] [(Option.some (Go.Eng.HE.mk Bool.false (Go.Eng.HB.exp Option.none [(Go.Eng.SV.slc 1 Option.none b), (Go.Eng.SV.int Go.IntKind.i64 n1), (Go.Eng.SV.int Go.IntKind.u64 n2), (Go.Eng.SV.int Go.IntKind.i64 n3)]))), (Option.some (Go.Eng.HE.mk Bool.true (Go.Eng.HB.rows (Go.Sa.B.u8 l))))] K =
      g_spec_l01Src_n_Wr N n b n1 n2 n3 l (fun n4 n5 n6 => K (Go.Eng.AV.sc (Go.Eng.SV.int Go.IntKind.i64 n4)) [(Option.some (Go.Eng.HE.mk Bool.false (Go.Eng.HB.exp Option.none [(Go.Eng.SV.slc 1 Option.none b), (Go.Eng.SV.int Go.IntKind.i64 n5), (Go.Eng.SV.int Go.IntKind.u64 n6), (Go.Eng.SV.int Go.IntKind.i64 n3)]))), (Option.some (Go.Eng.HE.mk Bool.true (Go.Eng.HB.rows (Go.Sa.B.u8 l))))]) := by kernel_rfl
def o_spec_l01Src_n_Wr (N : Nat) {R : Type} (args : List AV) (H : Hp E) (K : AV → Hp E → Option R) : Option R :=
  match args, H with
  | [(Go.Eng.AV.sc (Go.Eng.SV.ptr 0 0 0)), (Go.Eng.AV.sc (Go.Eng.SV.int Go.IntKind.i64 n))], [(Option.some (Go.Eng.HE.mk Bool.false (Go.Eng.HB.exp Option.none [(Go.Eng.SV.slc 1 Option.none b), (Go.Eng.SV.int Go.IntKind.i64 n1), (Go.Eng.SV.int Go.IntKind.u64 n2), (Go.Eng.SV.int Go.IntKind.i64 n3)]))), (Option.some (Go.Eng.HE.mk Bool.true (Go.Eng.HB.rows (Go.Sa.B.u8 l))))] => g_spec_l01Src_n_Wr N n b n1 n2 n3 l (fun n4 n5 n6 => K (Go.Eng.AV.sc (Go.Eng.SV.int Go.IntKind.i64 n4)) [(Option.some (Go.Eng.HE.mk Bool.false (Go.Eng.HB.exp Option.none [(Go.Eng.SV.slc 1 Option.none b), (Go.Eng.SV.int Go.IntKind.i64 n5), (Go.Eng.SV.int Go.IntKind.u64 n6), (Go.Eng.SV.int Go.IntKind.i64 n3)]))), (Option.some (Go.Eng.HE.mk Bool.true (Go.Eng.HB.rows (Go.Sa.B.u8 l))))])
  | _, _ => none
theorem o_spec_l01Src_n_Wr_ok (N : Nat) : FnOk E 91 (o_spec_l01Src_n_Wr N) := by
  intro R args H K r h
  unfold o_spec_l01Src_n_Wr at h
  dsimp only at h
  split at h
  · exact fnB_ok (ids := []) (top := []) ok (O_spec_l01Src_n_Wr_ok N) (jn_ok _ _ _) Go.Proofs.Try.func91 (by kernel_rfl) (IT := noIt) (sl := sl_spec_l01Src_n_Wr) (J := J_spec_l01Src_n_Wr) (K := K) (H := [(Option.some (Go.Eng.HE.mk Bool.false (Go.Eng.HB.exp Option.none [(Go.Eng.SV.slc 1 Option.none _), (Go.Eng.SV.int Go.IntKind.i64 _), (Go.Eng.SV.int Go.IntKind.u64 _), (Go.Eng.SV.int Go.IntKind.i64 _)]))), (Option.some (Go.Eng.HE.mk Bool.true (Go.Eng.HB.rows (Go.Sa.B.u8 _))))]) (noIt_ok) (by kernel_rfl) rfl ((e_spec_l01Src_n_Wr N _ _ _ _ _ _ K).trans h)
  · cases h
/-! ### (*loop.example/g00038/spec.l01Src).bytes -/
abbrev sl_spec_l01Src_bytes_Wr : SlotT := [(0, ([0, 1, 5, 6], [5]))]
abbrev J_spec_l01Src_bytes_Wr : JT := jn [] [] []
noncomputable def O_spec_l01Src_bytes_Wr (N : Nat) : Orc E := addFn 91 (o_spec_l01Src_n_Wr N) (noFn)
theorem O_spec_l01Src_bytes_Wr_ok (N : Nat) : OrcOk (O_spec_l01Src_bytes_Wr N) := addFn_ok (o_spec_l01Src_n_Wr_ok N) (noFn_ok)
def s_spec_l01Src_bytes_Wr_0 (N : Nat) {R : Type} (n4 : Int) (b2 : Bool) (n8 : Int) (l1 : List Int) (b1 : Bool) (n5 : Int) (n6 : Int) (n7 : Int) (l2 : List Int) (ag : Bool → Int → Int → Int → (List Int) → Option R)  (kN : Bool → Int → Int → (List Int) → Option R) : Option R :=
  (cond (decide ((n5 < n4)))
  (g_spec_l01Src_n_Wr N (256 : Int) b2 n6 n7 n8 l1 fun n9 n10 n11 =>
    (cond (Go.Eng.roomOk ((List.length l2) + (List.length [(Go.IntKind.wrap Go.IntKind.u8 n9)])) 1)
    (ag (cond (Nat.beq (List.length [(Go.IntKind.wrap Go.IntKind.u8 n9)]) 0) b1 Bool.false) (Go.IntKind.wrap Go.IntKind.i64 (n5 + (1 : Int))) n10 n11 (l2 ++ [(Go.IntKind.wrap Go.IntKind.u8 n9)]))
    none))
  (kN b1 n6 n7 l2))
def l_spec_l01Src_bytes_Wr_0 (N : Nat) {R : Type} (n4 : Int) (b2 : Bool) (n8 : Int) (l1 : List Int) (kN : Bool → Int → Int → (List Int) → Option R) : Nat → Bool → Int → Int → Int → (List Int) → Option R
  | 0, _, _, _, _, _ => none
  | f + 1, b1, n5, n6, n7, l2 => s_spec_l01Src_bytes_Wr_0 N n4 b2 n8 l1 b1 n5 n6 n7 l2 (fun b1 n5 n6 n7 l2 => l_spec_l01Src_bytes_Wr_0 N n4 b2 n8 l1 kN f b1 n5 n6 n7 l2)  kN
def c_spec_l01Src_bytes_Wr_0 (N : Nat) {R : Type} (n4 : Int) (b2 : Bool) (n8 : Int) (l1 : List Int) (b1 : Bool) (n5 : Int) (n6 : Int) (n7 : Int) (l2 : List Int) (kN : Bool → Int → Int → (List Int) → Option R) : Option R := l_spec_l01Src_bytes_Wr_0 N n4 b2 n8 l1 kN N b1 n5 n6 n7 l2
theorem se_spec_l01Src_bytes_Wr_0 (N : Nat) {R : Type} (n4 : Int) (b2 : Bool) (n8 : Int) (l1 : List Int) (b1 : Bool) (n5 : Int) (n6 : Int) (n7 : Int) (l2 : List Int) (AG : List (Option AV) → Hp E → Option R) (KL : Ex → List (Option AV) → Hp E → Option R) :
    iterStep (E := E) (O_spec_l01Src_bytes_Wr N) (fun {R} => LI (noIt) 2 21 sl_spec_l01Src_bytes_Wr (R := R)) J_spec_l01Src_bytes_Wr 2 21 0 [0, 1, 5, 6] [5] (body Go.Proofs.Try.f90 0) AG KL [(Option.some (Go.Eng.AV.sc (Go.Eng.SV.ptr 0 0 0))), (Option.some (Go.Eng.AV.sc (Go.Eng.SV.int Go.IntKind.i64 n4))), (Option.some (Go.Eng.AV.sc (Go.Eng.SV.slc 2 Option.none b1))), (Option.some (Go.Eng.AV.sc (Go.Eng.SV.int Go.IntKind.i64 n5)))] [(Option.some (Go.Eng.HE.mk Bool.false (Go.Eng.HB.exp Option.none [(Go.Eng.SV.slc 1 Option.none b2), (Go.Eng.SV.int Go.IntKind.i64 n6), (Go.Eng.SV.int Go.IntKind.u64 n7), (Go.Eng.SV.int Go.IntKind.i64 n8)]))), (Option.some (Go.Eng.HE.mk Bool.true (Go.Eng.HB.rows (Go.Sa.B.u8 l1)))), (Option.some (Go.Eng.HE.mk Bool.false (Go.Eng.HB.rows (Go.Sa.B.u8 l2))))] =
      s_spec_l01Src_bytes_Wr_0 N n4 b2 n8 l1 b1 n5 n6 n7 l2 (fun b1 n5 n6 n7 l2 => AG [(Option.some (Go.Eng.AV.sc (Go.Eng.SV.ptr 0 0 0))), (Option.some (Go.Eng.AV.sc (Go.Eng.SV.int Go.IntKind.i64 n4))), (Option.some (Go.Eng.AV.sc (Go.Eng.SV.slc 2 Option.none b1))), (Option.some (Go.Eng.AV.sc (Go.Eng.SV.int Go.IntKind.i64 n5)))] [(Option.some (Go.Eng.HE.mk Bool.false (Go.Eng.HB.exp Option.none [(Go.Eng.SV.slc 1 Option.none b2), (Go.Eng.SV.int Go.IntKind.i64 n6), (Go.Eng.SV.int Go.IntKind.u64 n7), (Go.Eng.SV.int Go.IntKind.i64 n8)]))), (Option.some (Go.Eng.HE.mk Bool.true (Go.Eng.HB.rows (Go.Sa.B.u8 l1)))), (Option.some (Go.Eng.HE.mk Bool.false (Go.Eng.HB.rows (Go.Sa.B.u8 l2))))])  (fun b4 n16 n17 l4 => KL Go.Eng.Ex.normal [(Option.some (Go.Eng.AV.sc (Go.Eng.SV.slc 2 Option.none b4)))] [(Option.some (Go.Eng.HE.mk Bool.false (Go.Eng.HB.exp Option.none [(Go.Eng.SV.slc 1 Option.none b2), (Go.Eng.SV.int Go.IntKind.i64 n16), (Go.Eng.SV.int Go.IntKind.u64 n17), (Go.Eng.SV.int Go.IntKind.i64 n8)]))), (Option.some (Go.Eng.HE.mk Bool.true (Go.Eng.HB.rows (Go.Sa.B.u8 l1)))), (Option.some (Go.Eng.HE.mk Bool.false (Go.Eng.HB.rows (Go.Sa.B.u8 l4))))]) := by kernel_rfl
theorem le_spec_l01Src_bytes_Wr_0 (N : Nat) {R : Type} (n4 : Int) (b2 : Bool) (n8 : Int) (l1 : List Int) (KL : Ex → List (Option AV) → Hp E → Option R) : ∀ (f : Nat), ∀ (b1 : Bool) (n5 : Int) (n6 : Int) (n7 : Int) (l2 : List Int), iterK (E := E) (O_spec_l01Src_bytes_Wr N) (fun {R} => LI (noIt) 2 21 sl_spec_l01Src_bytes_Wr (R := R)) J_spec_l01Src_bytes_Wr 2 21 0 [0, 1, 5, 6] [5] (body Go.Proofs.Try.f90 0) f [(Option.some (Go.Eng.AV.sc (Go.Eng.SV.ptr 0 0 0))), (Option.some (Go.Eng.AV.sc (Go.Eng.SV.int Go.IntKind.i64 n4))), (Option.some (Go.Eng.AV.sc (Go.Eng.SV.slc 2 Option.none b1))), (Option.some (Go.Eng.AV.sc (Go.Eng.SV.int Go.IntKind.i64 n5)))] [(Option.some (Go.Eng.HE.mk Bool.false (Go.Eng.HB.exp Option.none [(Go.Eng.SV.slc 1 Option.none b2), (Go.Eng.SV.int Go.IntKind.i64 n6), (Go.Eng.SV.int Go.IntKind.u64 n7), (Go.Eng.SV.int Go.IntKind.i64 n8)]))), (Option.some (Go.Eng.HE.mk Bool.true (Go.Eng.HB.rows (Go.Sa.B.u8 l1)))), (Option.some (Go.Eng.HE.mk Bool.false (Go.Eng.HB.rows (Go.Sa.B.u8 l2))))] KL = l_spec_l01Src_bytes_Wr_0 N n4 b2 n8 l1 (fun b4 n16 n17 l4 => KL Go.Eng.Ex.normal [(Option.some (Go.Eng.AV.sc (Go.Eng.SV.slc 2 Option.none b4)))] [(Option.some (Go.Eng.HE.mk Bool.false (Go.Eng.HB.exp Option.none [(Go.Eng.SV.slc 1 Option.none b2), (Go.Eng.SV.int Go.IntKind.i64 n16), (Go.Eng.SV.int Go.IntKind.u64 n17), (Go.Eng.SV.int Go.IntKind.i64 n8)]))), (Option.some (Go.Eng.HE.mk Bool.true (Go.Eng.HB.rows (Go.Sa.B.u8 l1)))), (Option.some (Go.Eng.HE.mk Bool.false (Go.Eng.HB.rows (Go.Sa.B.u8 l4))))]) f b1 n5 n6 n7 l2 := by
  intro f
  induction f with
  | zero => intros; rfl
  | succ f ih =>
    intro b1 n5 n6 n7 l2
    rw [iterK_succ, se_spec_l01Src_bytes_Wr_0]
    exact (congrArg (fun z0 => s_spec_l01Src_bytes_Wr_0 N n4 b2 n8 l1 b1 n5 n6 n7 l2 z0 (fun b4 n16 n17 l4 => KL Go.Eng.Ex.normal [(Option.some (Go.Eng.AV.sc (Go.Eng.SV.slc 2 Option.none b4)))] [(Option.some (Go.Eng.HE.mk Bool.false (Go.Eng.HB.exp Option.none [(Go.Eng.SV.slc 1 Option.none b2), (Go.Eng.SV.int Go.IntKind.i64 n16), (Go.Eng.SV.int Go.IntKind.u64 n17), (Go.Eng.SV.int Go.IntKind.i64 n8)]))), (Option.some (Go.Eng.HE.mk Bool.true (Go.Eng.HB.rows (Go.Sa.B.u8 l1)))), (Option.some (Go.Eng.HE.mk Bool.false (Go.Eng.HB.rows (Go.Sa.B.u8 l4))))])) (funext fun b1 => funext fun n5 => funext fun n6 => funext fun n7 => funext fun l2 => ih b1 n5 n6 n7 l2))
def i_spec_l01Src_bytes_Wr_0 (N : Nat) {R : Type} (vs : List (Option AV)) (H : Hp E) (KL : Ex → List (Option AV) → Hp E → Option R) : Option R :=
  match vs, H with
  | [(Option.some (Go.Eng.AV.sc (Go.Eng.SV.ptr 0 0 0))), (Option.some (Go.Eng.AV.sc (Go.Eng.SV.int Go.IntKind.i64 n4))), (Option.some (Go.Eng.AV.sc (Go.Eng.SV.slc 2 Option.none b1))), (Option.some (Go.Eng.AV.sc (Go.Eng.SV.int Go.IntKind.i64 n5)))], [(Option.some (Go.Eng.HE.mk Bool.false (Go.Eng.HB.exp Option.none [(Go.Eng.SV.slc 1 Option.none b2), (Go.Eng.SV.int Go.IntKind.i64 n6), (Go.Eng.SV.int Go.IntKind.u64 n7), (Go.Eng.SV.int Go.IntKind.i64 n8)]))), (Option.some (Go.Eng.HE.mk Bool.true (Go.Eng.HB.rows (Go.Sa.B.u8 l1)))), (Option.some (Go.Eng.HE.mk Bool.false (Go.Eng.HB.rows (Go.Sa.B.u8 l2))))] => c_spec_l01Src_bytes_Wr_0 N n4 b2 n8 l1 b1 n5 n6 n7 l2 (fun b5 n18 n19 l5 => KL Go.Eng.Ex.normal [(Option.some (Go.Eng.AV.sc (Go.Eng.SV.slc 2 Option.none b5)))] [(Option.some (Go.Eng.HE.mk Bool.false (Go.Eng.HB.exp Option.none [(Go.Eng.SV.slc 1 Option.none b2), (Go.Eng.SV.int Go.IntKind.i64 n18), (Go.Eng.SV.int Go.IntKind.u64 n19), (Go.Eng.SV.int Go.IntKind.i64 n8)]))), (Option.some (Go.Eng.HE.mk Bool.true (Go.Eng.HB.rows (Go.Sa.B.u8 l1)))), (Option.some (Go.Eng.HE.mk Bool.false (Go.Eng.HB.rows (Go.Sa.B.u8 l5))))])
  | _, _ => none
noncomputable def IT_spec_l01Src_bytes_Wr_0 (N : Nat) : Its E := addIt 0 (i_spec_l01Src_bytes_Wr_0 N) (noIt)
theorem IT_spec_l01Src_bytes_Wr_0_ok (N : Nat) : ItOk (IT_spec_l01Src_bytes_Wr_0 N) 2 21 sl_spec_l01Src_bytes_Wr (lsB Go.Proofs.Try.f90 [0]) :=
  addItB_ok (inner := []) ok (O_spec_l01Src_bytes_Wr_ok N) (jn_ok _ _ _) (noIt_ok) rfl (by kernel_rfl) rfl fun vs H KL r h => by
    unfold i_spec_l01Src_bytes_Wr_0 at h
    split at h
    · exact ⟨_, (le_spec_l01Src_bytes_Wr_0 N _ _ _ _ KL N _ _ _ _ _).trans h⟩
    · cases h
def g_spec_l01Src_bytes_Wr (N : Nat) {R : Type} (n : Int) (b : Bool) (n1 : Int) (n2 : Int) (n3 : Int) (l : List Int) (k : ByteArray → Int → Int → Option R) : Option R :=
  (c_spec_l01Src_bytes_Wr_0 N n b n3 l Bool.false (0 : Int) n1 n2 [] fun b3 n12 n13 l3 =>
  (cond (Nat.ble (0 + (List.length l3)) (List.length l3))
  (k (Go.Eng.toBytes (Go.Eng.seg l3 0 (List.length l3))) n12 n13)
  none))
theorem e_spec_l01Src_bytes_Wr (N : Nat) {R : Type} (n : Int) (b : Bool) (n1 : Int) (n2 : Int) (n3 : Int) (l : List Int) (K : AV → Hp E → Option R) :
    runFnI (E := E) (O_spec_l01Src_bytes_Wr N) (IT_spec_l01Src_bytes_Wr_0 N) sl_spec_l01Src_bytes_Wr J_spec_l01Src_bytes_Wr Go.Proofs.Try.f90 [(Go.Eng.AV.sc (Go.Eng.SV.ptr 0 0 0)), (Go.Eng.AV.sc (Go.Eng.SV.int Go.IntKind.i64 n))] [(Option.some (Go.Eng.HE.mk Bool.false (Go.Eng.HB.exp Option.none [(Go.Eng.SV.slc 1 Option.none b), (Go.Eng.SV.int Go.IntKind.i64 n1), (Go.Eng.SV.int Go.IntKind.u64 n2), (Go.Eng.SV.int Go.IntKind.i64 n3)]))), (Option.some (Go.Eng.HE.mk Bool.true (Go.Eng.HB.rows (Go.Sa.B.u8 l))))] K =
      g_spec_l01Src_bytes_Wr N n b n1 n2 n3 l (fun s n14 n15 => K (Go.Eng.AV.sc (Go.Eng.SV.str s)) [(Option.some (Go.Eng.HE.mk Bool.false (Go.Eng.HB.exp Option.none [(Go.Eng.SV.slc 1 Option.none b), (Go.Eng.SV.int Go.IntKind.i64 n14), (Go.Eng.SV.int Go.IntKind.u64 n15), (Go.Eng.SV.int Go.IntKind.i64 n3)]))), (Option.some (Go.Eng.HE.mk Bool.true (Go.Eng.HB.rows (Go.Sa.B.u8 l))))]) := by kernel_rfl
def o_spec_l01Src_bytes_Wr (N : Nat) {R : Type} (args : List AV) (H : Hp E) (K : AV → Hp E → Option R) : Option R :=
  match args, H with
  | [(Go.Eng.AV.sc (Go.Eng.SV.ptr 0 0 0)), (Go.Eng.AV.sc (Go.Eng.SV.int Go.IntKind.i64 n))], [(Option.some (Go.Eng.HE.mk Bool.false (Go.Eng.HB.exp Option.none [(Go.Eng.SV.slc 1 Option.none b), (Go.Eng.SV.int Go.IntKind.i64 n1), (Go.Eng.SV.int Go.IntKind.u64 n2), (Go.Eng.SV.int Go.IntKind.i64 n3)]))), (Option.some (Go.Eng.HE.mk Bool.true (Go.Eng.HB.rows (Go.Sa.B.u8 l))))] => g_spec_l01Src_bytes_Wr N n b n1 n2 n3 l (fun s n14 n15 => K (Go.Eng.AV.sc (Go.Eng.SV.str s)) [(Option.some (Go.Eng.HE.mk Bool.false (Go.Eng.HB.exp Option.none [(Go.Eng.SV.slc 1 Option.none b), (Go.Eng.SV.int Go.IntKind.i64 n14), (Go.Eng.SV.int Go.IntKind.u64 n15), (Go.Eng.SV.int Go.IntKind.i64 n3)]))), (Option.some (Go.Eng.HE.mk Bool.true (Go.Eng.HB.rows (Go.Sa.B.u8 l))))])
  | _, _ => none
theorem o_spec_l01Src_bytes_Wr_ok (N : Nat) : FnOk E 90 (o_spec_l01Src_bytes_Wr N) := by
  intro R args H K r h
  unfold o_spec_l01Src_bytes_Wr at h
  dsimp only at h
  split at h
  · exact fnB_ok (ids := [0]) (top := [0]) ok (O_spec_l01Src_bytes_Wr_ok N) (jn_ok _ _ _) Go.Proofs.Try.func90 (by kernel_rfl) (IT := IT_spec_l01Src_bytes_Wr_0 N) (sl := sl_spec_l01Src_bytes_Wr) (J := J_spec_l01Src_bytes_Wr) (K := K) (H := [(Option.some (Go.Eng.HE.mk Bool.false (Go.Eng.HB.exp Option.none [(Go.Eng.SV.slc 1 Option.none _), (Go.Eng.SV.int Go.IntKind.i64 _), (Go.Eng.SV.int Go.IntKind.u64 _), (Go.Eng.SV.int Go.IntKind.i64 _)]))), (Option.some (Go.Eng.HE.mk Bool.true (Go.Eng.HB.rows (Go.Sa.B.u8 _))))]) (IT_spec_l01Src_bytes_Wr_0_ok N) (by kernel_rfl) rfl ((e_spec_l01Src_bytes_Wr N _ _ _ _ _ _ K).trans h)
  · cases h
/-! ### (*loop.example/g00038/spec.l01Src).one -/
abbrev sl_spec_l01Src_one_Wr : SlotT := []
abbrev J_spec_l01Src_one_Wr : JT := jn [] [] []
noncomputable def O_spec_l01Src_one_Wr (N : Nat) : Orc E := addFn 91 (o_spec_l01Src_n_Wr N) (noFn)
theorem O_spec_l01Src_one_Wr_ok (N : Nat) : OrcOk (O_spec_l01Src_one_Wr N) := addFn_ok (o_spec_l01Src_n_Wr_ok N) (noFn_ok)
def g_spec_l01Src_one_Wr (N : Nat) {R : Type} (n : Int) (b : Bool) (n1 : Int) (n2 : Int) (n3 : Int) (l : List Int) (k : Bool → Int → Int → Option R) : Option R :=
  (g_spec_l01Src_n_Wr N n b n1 n2 n3 l fun n4 n5 n6 =>
  (k (n4 == (0 : Int)) n5 n6))
theorem e_spec_l01Src_one_Wr (N : Nat) {R : Type} (n : Int) (b : Bool) (n1 : Int) (n2 : Int) (n3 : Int) (l : List Int) (K : AV → Hp E → Option R) :
    runFnI (E := E) (O_spec_l01Src_one_Wr N) (noIt) sl_spec_l01Src_one_Wr J_spec_l01Src_one_Wr Go.Proofs.Try.f94 [(Go.Eng.AV.sc (Go.Eng.SV.ptr 0 0 0)), (Go.Eng.AV.sc (Go.Eng.SV.int Go.IntKind.i64 n))] [(Option.some (Go.Eng.HE.mk Bool.false (Go.Eng.HB.exp Option.none [(Go.Eng.SV.slc 1 Option.none b), (Go.Eng.SV.int Go.IntKind.i64 n1), (Go.Eng.SV.int Go.IntKind.u64 n2), (Go.Eng.SV.int Go.IntKind.i64 n3)]))), (Option.some (Go.Eng.HE.mk Bool.true (Go.Eng.HB.rows (Go.Sa.B.u8 l))))] K =
      g_spec_l01Src_one_Wr N n b n1 n2 n3 l (fun b1 n7 n8 => K (Go.Eng.AV.sc (Go.Eng.SV.bool b1)) [(Option.some (Go.Eng.HE.mk Bool.false (Go.Eng.HB.exp Option.none [(Go.Eng.SV.slc 1 Option.none b), (Go.Eng.SV.int Go.IntKind.i64 n7), (Go.Eng.SV.int Go.IntKind.u64 n8), (Go.Eng.SV.int Go.IntKind.i64 n3)]))), (Option.some (Go.Eng.HE.mk Bool.true (Go.Eng.HB.rows (Go.Sa.B.u8 l))))]) := by kernel_rfl
def o_spec_l01Src_one_Wr (N : Nat) {R : Type} (args : List AV) (H : Hp E) (K : AV → Hp E → Option R) : Option R :=
  match args, H with
  | [(Go.Eng.AV.sc (Go.Eng.SV.ptr 0 0 0)), (Go.Eng.AV.sc (Go.Eng.SV.int Go.IntKind.i64 n))], [(Option.some (Go.Eng.HE.mk Bool.false (Go.Eng.HB.exp Option.none [(Go.Eng.SV.slc 1 Option.none b), (Go.Eng.SV.int Go.IntKind.i64 n1), (Go.Eng.SV.int Go.IntKind.u64 n2), (Go.Eng.SV.int Go.IntKind.i64 n3)]))), (Option.some (Go.Eng.HE.mk Bool.true (Go.Eng.HB.rows (Go.Sa.B.u8 l))))] => g_spec_l01Src_one_Wr N n b n1 n2 n3 l (fun b1 n7 n8 => K (Go.Eng.AV.sc (Go.Eng.SV.bool b1)) [(Option.some (Go.Eng.HE.mk Bool.false (Go.Eng.HB.exp Option.none [(Go.Eng.SV.slc 1 Option.none b), (Go.Eng.SV.int Go.IntKind.i64 n7), (Go.Eng.SV.int Go.IntKind.u64 n8), (Go.Eng.SV.int Go.IntKind.i64 n3)]))), (Option.some (Go.Eng.HE.mk Bool.true (Go.Eng.HB.rows (Go.Sa.B.u8 l))))])
  | _, _ => none
theorem o_spec_l01Src_one_Wr_ok (N : Nat) : FnOk E 94 (o_spec_l01Src_one_Wr N) := by
  intro R args H K r h
  unfold o_spec_l01Src_one_Wr at h
  dsimp only at h
  split at h
  · exact fnB_ok (ids := []) (top := []) ok (O_spec_l01Src_one_Wr_ok N) (jn_ok _ _ _) Go.Proofs.Try.func94 (by kernel_rfl) (IT := noIt) (sl := sl_spec_l01Src_one_Wr) (J := J_spec_l01Src_one_Wr) (K := K) (H := [(Option.some (Go.Eng.HE.mk Bool.false (Go.Eng.HB.exp Option.none [(Go.Eng.SV.slc 1 Option.none _), (Go.Eng.SV.int Go.IntKind.i64 _), (Go.Eng.SV.int Go.IntKind.u64 _), (Go.Eng.SV.int Go.IntKind.i64 _)]))), (Option.some (Go.Eng.HE.mk Bool.true (Go.Eng.HB.rows (Go.Sa.B.u8 _))))]) (noIt_ok) (by kernel_rfl) rfl ((e_spec_l01Src_one_Wr N _ _ _ _ _ _ K).trans h)
  · cases h
/-! ### (*loop.example/g00038/spec.l01Src).zeros -/
abbrev sl_spec_l01Src_zeros_Wr : SlotT := []
abbrev J_spec_l01Src_zeros_Wr : JT := jn [] [] []
noncomputable def O_spec_l01Src_zeros_Wr (N : Nat) : Orc E := noFn
theorem O_spec_l01Src_zeros_Wr_ok (N : Nat) : OrcOk (O_spec_l01Src_zeros_Wr N) := noFn_ok
def g_spec_l01Src_zeros_Wr (N : Nat) {R : Type} (n : Int) (b : Bool) (n1 : Int) (n2 : Int) (n3 : Int) (l : List Int) (k : ByteArray → Option R) : Option R :=
  (cond (((decide ((n = n))) && (decide (((0 : Int) ≤ n)))) && (Go.Eng.roomOk (Int.toNat n) 1))
  (cond (Nat.ble (0 + (List.length (List.replicate (Int.toNat n) (0 : Int)))) (List.length (List.replicate (Int.toNat n) (0 : Int))))
    (k (Go.Eng.toBytes (Go.Eng.seg (List.replicate (Int.toNat n) (0 : Int)) 0 (List.length (List.replicate (Int.toNat n) (0 : Int))))))
    none)
  none)
theorem e_spec_l01Src_zeros_Wr (N : Nat) {R : Type} (n : Int) (b : Bool) (n1 : Int) (n2 : Int) (n3 : Int) (l : List Int) (K : AV → Hp E → Option R) :
    runFnI (E := E) (O_spec_l01Src_zeros_Wr N) (noIt) sl_spec_l01Src_zeros_Wr J_spec_l01Src_zeros_Wr Go.Proofs.Try.f106 [(Go.Eng.AV.sc (Go.Eng.SV.ptr 0 0 0)), (Go.Eng.AV.sc (Go.Eng.SV.int Go.IntKind.i64 n))] [(Option.some (Go.Eng.HE.mk Bool.false (Go.Eng.HB.exp Option.none [(Go.Eng.SV.slc 1 Option.none b), (Go.Eng.SV.int Go.IntKind.i64 n1), (Go.Eng.SV.int Go.IntKind.u64 n2), (Go.Eng.SV.int Go.IntKind.i64 n3)]))), (Option.some (Go.Eng.HE.mk Bool.true (Go.Eng.HB.rows (Go.Sa.B.u8 l))))] K =
      g_spec_l01Src_zeros_Wr N n b n1 n2 n3 l (fun s => K (Go.Eng.AV.sc (Go.Eng.SV.str s)) [(Option.some (Go.Eng.HE.mk Bool.false (Go.Eng.HB.exp Option.none [(Go.Eng.SV.slc 1 Option.none b), (Go.Eng.SV.int Go.IntKind.i64 n1), (Go.Eng.SV.int Go.IntKind.u64 n2), (Go.Eng.SV.int Go.IntKind.i64 n3)]))), (Option.some (Go.Eng.HE.mk Bool.true (Go.Eng.HB.rows (Go.Sa.B.u8 l))))]) := by kernel_rfl
def o_spec_l01Src_zeros_Wr (N : Nat) {R : Type} (args : List AV) (H : Hp E) (K : AV → Hp E → Option R) : Option R :=
  match args, H with
  | [(Go.Eng.AV.sc (Go.Eng.SV.ptr 0 0 0)), (Go.Eng.AV.sc (Go.Eng.SV.int Go.IntKind.i64 n))], [(Option.some (Go.Eng.HE.mk Bool.false (Go.Eng.HB.exp Option.none [(Go.Eng.SV.slc 1 Option.none b), (Go.Eng.SV.int Go.IntKind.i64 n1), (Go.Eng.SV.int Go.IntKind.u64 n2), (Go.Eng.SV.int Go.IntKind.i64 n3)]))), (Option.some (Go.Eng.HE.mk Bool.true (Go.Eng.HB.rows (Go.Sa.B.u8 l))))] => g_spec_l01Src_zeros_Wr N n b n1 n2 n3 l (fun s => K (Go.Eng.AV.sc (Go.Eng.SV.str s)) [(Option.some (Go.Eng.HE.mk Bool.false (Go.Eng.HB.exp Option.none [(Go.Eng.SV.slc 1 Option.none b), (Go.Eng.SV.int Go.IntKind.i64 n1), (Go.Eng.SV.int Go.IntKind.u64 n2), (Go.Eng.SV.int Go.IntKind.i64 n3)]))), (Option.some (Go.Eng.HE.mk Bool.true (Go.Eng.HB.rows (Go.Sa.B.u8 l))))])
  | _, _ => none
theorem o_spec_l01Src_zeros_Wr_ok (N : Nat) : FnOk E 106 (o_spec_l01Src_zeros_Wr N) := by
  intro R args H K r h
  unfold o_spec_l01Src_zeros_Wr at h
  dsimp only at h
  split at h
  · exact fnB_ok (ids := []) (top := []) ok (O_spec_l01Src_zeros_Wr_ok N) (jn_ok _ _ _) Go.Proofs.Try.func106 (by kernel_rfl) (IT := noIt) (sl := sl_spec_l01Src_zeros_Wr) (J := J_spec_l01Src_zeros_Wr) (K := K) (H := [(Option.some (Go.Eng.HE.mk Bool.false (Go.Eng.HB.exp Option.none [(Go.Eng.SV.slc 1 Option.none _), (Go.Eng.SV.int Go.IntKind.i64 _), (Go.Eng.SV.int Go.IntKind.u64 _), (Go.Eng.SV.int Go.IntKind.i64 _)]))), (Option.some (Go.Eng.HE.mk Bool.true (Go.Eng.HB.rows (Go.Sa.B.u8 _))))]) (noIt_ok) (by kernel_rfl) rfl ((e_spec_l01Src_zeros_Wr N _ _ _ _ _ _ K).trans h)
  · cases h
/-! ### (*loop.example/g00038/spec.l01Src).key -/
abbrev sl_spec_l01Src_key_Wr : SlotT := []
abbrev J_spec_l01Src_key_Wr : JT := jn [] [] []
noncomputable def O_spec_l01Src_key_Wr (N : Nat) : Orc E := addFn 106 (o_spec_l01Src_zeros_Wr N) (addFn 94 (o_spec_l01Src_one_Wr N) (addFn 90 (o_spec_l01Src_bytes_Wr N) (addFn 91 (o_spec_l01Src_n_Wr N) (noFn))))
theorem O_spec_l01Src_key_Wr_ok (N : Nat) : OrcOk (O_spec_l01Src_key_Wr N) := addFn_ok (o_spec_l01Src_zeros_Wr_ok N) (addFn_ok (o_spec_l01Src_one_Wr_ok N) (addFn_ok (o_spec_l01Src_bytes_Wr_ok N) (addFn_ok (o_spec_l01Src_n_Wr_ok N) (noFn_ok))))
def g_spec_l01Src_key_Wr (N : Nat) {R : Type} (b : Bool) (n : Int) (n1 : Int) (n2 : Int) (l : List Int) (k : ByteArray → Int → Int → Option R) : Option R :=
  (g_spec_l01Src_n_Wr N (8 : Int) b n n1 n2 l fun n3 n4 n5 =>
  (g_spec_l01Src_bytes_Wr N n3 b n4 n5 n2 l fun s n6 n7 =>
  (g_spec_l01Src_one_Wr N (30 : Int) b n6 n7 n2 l fun b1 n8 n9 =>
  (cond b1
  (g_spec_l01Src_n_Wr N (3 : Int) b n8 n9 n2 l fun n10 n11 n12 =>
    (g_spec_l01Src_zeros_Wr N (Go.IntKind.wrap Go.IntKind.i64 ((4031 : Int) + n10)) b n11 n12 n2 l fun s1 =>
    (g_spec_l01Src_one_Wr N (30 : Int) b n11 n12 n2 l fun b2 n13 n14 =>
    (cond b2
    (g_spec_l01Src_n_Wr N (2 : Int) b n13 n14 n2 l fun n15 n16 n17 =>
      (g_spec_l01Src_zeros_Wr N (Go.IntKind.wrap Go.IntKind.i64 ((4096 : Int) + n15)) b n16 n17 n2 l fun s2 =>
      (k s2 n16 n17)))
    (k s1 n13 n14)))))
  (g_spec_l01Src_one_Wr N (30 : Int) b n8 n9 n2 l fun b3 n18 n19 =>
    (cond b3
    (g_spec_l01Src_n_Wr N (2 : Int) b n18 n19 n2 l fun n20 n21 n22 =>
      (g_spec_l01Src_zeros_Wr N (Go.IntKind.wrap Go.IntKind.i64 ((4096 : Int) + n20)) b n21 n22 n2 l fun s3 =>
      (k s3 n21 n22)))
    (k s n18 n19)))))))
theorem e_spec_l01Src_key_Wr (N : Nat) {R : Type} (b : Bool) (n : Int) (n1 : Int) (n2 : Int) (l : List Int) (K : AV → Hp E → Option R) :
    runFnI (E := E) (O_spec_l01Src_key_Wr N) (noIt) sl_spec_l01Src_key_Wr J_spec_l01Src_key_Wr Go.Proofs.Try.f63 [(Go.Eng.AV.sc (Go.Eng.SV.ptr 0 0 0))] [(Option.some (Go.Eng.HE.mk Bool.false (Go.Eng.HB.exp Option.none [(Go.Eng.SV.slc 1 Option.none b), (Go.Eng.SV.int Go.IntKind.i64 n), (Go.Eng.SV.int Go.IntKind.u64 n1), (Go.Eng.SV.int Go.IntKind.i64 n2)]))), (Option.some (Go.Eng.HE.mk Bool.true (Go.Eng.HB.rows (Go.Sa.B.u8 l))))] K =
      g_spec_l01Src_key_Wr N b n n1 n2 l (fun s4 n23 n24 => K (Go.Eng.AV.sc (Go.Eng.SV.str s4)) [(Option.some (Go.Eng.HE.mk Bool.false (Go.Eng.HB.exp Option.none [(Go.Eng.SV.slc 1 Option.none b), (Go.Eng.SV.int Go.IntKind.i64 n23), (Go.Eng.SV.int Go.IntKind.u64 n24), (Go.Eng.SV.int Go.IntKind.i64 n2)]))), (Option.some (Go.Eng.HE.mk Bool.true (Go.Eng.HB.rows (Go.Sa.B.u8 l))))]) := by kernel_rfl
def o_spec_l01Src_key_Wr (N : Nat) {R : Type} (args : List AV) (H : Hp E) (K : AV → Hp E → Option R) : Option R :=
  match args, H with
  | [(Go.Eng.AV.sc (Go.Eng.SV.ptr 0 0 0))], [(Option.some (Go.Eng.HE.mk Bool.false (Go.Eng.HB.exp Option.none [(Go.Eng.SV.slc 1 Option.none b), (Go.Eng.SV.int Go.IntKind.i64 n), (Go.Eng.SV.int Go.IntKind.u64 n1), (Go.Eng.SV.int Go.IntKind.i64 n2)]))), (Option.some (Go.Eng.HE.mk Bool.true (Go.Eng.HB.rows (Go.Sa.B.u8 l))))] => g_spec_l01Src_key_Wr N b n n1 n2 l (fun s4 n23 n24 => K (Go.Eng.AV.sc (Go.Eng.SV.str s4)) [(Option.some (Go.Eng.HE.mk Bool.false (Go.Eng.HB.exp Option.none [(Go.Eng.SV.slc 1 Option.none b), (Go.Eng.SV.int Go.IntKind.i64 n23), (Go.Eng.SV.int Go.IntKind.u64 n24), (Go.Eng.SV.int Go.IntKind.i64 n2)]))), (Option.some (Go.Eng.HE.mk Bool.true (Go.Eng.HB.rows (Go.Sa.B.u8 l))))])
  | _, _ => none
theorem o_spec_l01Src_key_Wr_ok (N : Nat) : FnOk E 63 (o_spec_l01Src_key_Wr N) := by
  intro R args H K r h
  unfold o_spec_l01Src_key_Wr at h
  dsimp only at h
  split at h
  · exact fnB_ok (ids := []) (top := []) ok (O_spec_l01Src_key_Wr_ok N) (jn_ok _ _ _) Go.Proofs.Try.func63 (by kernel_rfl) (IT := noIt) (sl := sl_spec_l01Src_key_Wr) (J := J_spec_l01Src_key_Wr) (K := K) (H := [(Option.some (Go.Eng.HE.mk Bool.false (Go.Eng.HB.exp Option.none [(Go.Eng.SV.slc 1 Option.none _), (Go.Eng.SV.int Go.IntKind.i64 _), (Go.Eng.SV.int Go.IntKind.u64 _), (Go.Eng.SV.int Go.IntKind.i64 _)]))), (Option.some (Go.Eng.HE.mk Bool.true (Go.Eng.HB.rows (Go.Sa.B.u8 _))))]) (noIt_ok) (by kernel_rfl) rfl ((e_spec_l01Src_key_Wr N _ _ _ _ _ K).trans h)
  · cases h
/-! ### (*loop.example/g00038/spec.l01Src).num -/
abbrev sl_spec_l01Src_num_Wr : SlotT := []
abbrev J_spec_l01Src_num_Wr : JT := jn [] [] [(4, [2, 6])]
noncomputable def O_spec_l01Src_num_Wr (N : Nat) : Orc E := addFn 91 (o_spec_l01Src_n_Wr N) (addFn 94 (o_spec_l01Src_one_Wr N) (noFn))
theorem O_spec_l01Src_num_Wr_ok (N : Nat) : OrcOk (O_spec_l01Src_num_Wr N) := addFn_ok (o_spec_l01Src_n_Wr_ok N) (addFn_ok (o_spec_l01Src_one_Wr_ok N) (noFn_ok))
def g_spec_l01Src_num_Wr (N : Nat) {R : Type} (b : Bool) (n : Int) (n1 : Int) (n2 : Int) (l : List Int) (k : Int → Int → Int → Option R) : Option R :=
  (g_spec_l01Src_one_Wr N (3 : Int) b n n1 n2 l fun b1 n3 n4 =>
  (cond b1
  (g_spec_l01Src_n_Wr N (1000 : Int) b n3 n4 n2 l fun n5 n6 n7 =>
    (k (Go.IntKind.wrap Go.IntKind.i64 (n5 - (500 : Int))) n6 n7))
  (g_spec_l01Src_n_Wr N (15 : Int) b n3 n4 n2 l fun n8 n9 n10 =>
    (cond ((decide (((0 : Int) ≤ n8))) && (decide ((n8 < (15 : Int)))))
    (elemK [(0 : Int), (1 : Int), (2 : Int), (255 : Int), (256 : Int), (4095 : Int), (4096 : Int), (65535 : Int), (65536 : Int), (2147483647 : Int), (2147483648 : Int), (4294967295 : Int), (4294967296 : Int), (9223372036854775807 : Int), (-(9223372036854775808 : Int))] (Int.toNat n8) fun x =>
      (g_spec_l01Src_n_Wr N (3 : Int) b n9 n10 n2 l fun n11 n12 n13 =>
      (k (Go.IntKind.wrap Go.IntKind.i64 ((Go.IntKind.wrap Go.IntKind.i64 (x + n11)) - (1 : Int))) n12 n13)))
    none))))
theorem e_spec_l01Src_num_Wr (N : Nat) {R : Type} (b : Bool) (n : Int) (n1 : Int) (n2 : Int) (l : List Int) (K : AV → Hp E → Option R) :
    runFnI (E := E) (O_spec_l01Src_num_Wr N) (noIt) sl_spec_l01Src_num_Wr J_spec_l01Src_num_Wr Go.Proofs.Try.f89 [(Go.Eng.AV.sc (Go.Eng.SV.ptr 0 0 0))] [(Option.some (Go.Eng.HE.mk Bool.false (Go.Eng.HB.exp Option.none [(Go.Eng.SV.slc 1 Option.none b), (Go.Eng.SV.int Go.IntKind.i64 n), (Go.Eng.SV.int Go.IntKind.u64 n1), (Go.Eng.SV.int Go.IntKind.i64 n2)]))), (Option.some (Go.Eng.HE.mk Bool.true (Go.Eng.HB.rows (Go.Sa.B.u8 l))))] K =
      g_spec_l01Src_num_Wr N b n n1 n2 l (fun n14 n15 n16 => K (Go.Eng.AV.sc (Go.Eng.SV.int Go.IntKind.i64 n14)) [(Option.some (Go.Eng.HE.mk Bool.false (Go.Eng.HB.exp Option.none [(Go.Eng.SV.slc 1 Option.none b), (Go.Eng.SV.int Go.IntKind.i64 n15), (Go.Eng.SV.int Go.IntKind.u64 n16), (Go.Eng.SV.int Go.IntKind.i64 n2)]))), (Option.some (Go.Eng.HE.mk Bool.true (Go.Eng.HB.rows (Go.Sa.B.u8 l))))]) := by kernel_rfl
def o_spec_l01Src_num_Wr (N : Nat) {R : Type} (args : List AV) (H : Hp E) (K : AV → Hp E → Option R) : Option R :=
  match args, H with
  | [(Go.Eng.AV.sc (Go.Eng.SV.ptr 0 0 0))], [(Option.some (Go.Eng.HE.mk Bool.false (Go.Eng.HB.exp Option.none [(Go.Eng.SV.slc 1 Option.none b), (Go.Eng.SV.int Go.IntKind.i64 n), (Go.Eng.SV.int Go.IntKind.u64 n1), (Go.Eng.SV.int Go.IntKind.i64 n2)]))), (Option.some (Go.Eng.HE.mk Bool.true (Go.Eng.HB.rows (Go.Sa.B.u8 l))))] => g_spec_l01Src_num_Wr N b n n1 n2 l (fun n14 n15 n16 => K (Go.Eng.AV.sc (Go.Eng.SV.int Go.IntKind.i64 n14)) [(Option.some (Go.Eng.HE.mk Bool.false (Go.Eng.HB.exp Option.none [(Go.Eng.SV.slc 1 Option.none b), (Go.Eng.SV.int Go.IntKind.i64 n15), (Go.Eng.SV.int Go.IntKind.u64 n16), (Go.Eng.SV.int Go.IntKind.i64 n2)]))), (Option.some (Go.Eng.HE.mk Bool.true (Go.Eng.HB.rows (Go.Sa.B.u8 l))))])
  | _, _ => none
theorem o_spec_l01Src_num_Wr_ok (N : Nat) : FnOk E 89 (o_spec_l01Src_num_Wr N) := by
  intro R args H K r h
  unfold o_spec_l01Src_num_Wr at h
  dsimp only at h
  split at h
  · exact fnB_ok (ids := []) (top := []) ok (O_spec_l01Src_num_Wr_ok N) (jn_ok _ _ _) Go.Proofs.Try.func89 (by kernel_rfl) (IT := noIt) (sl := sl_spec_l01Src_num_Wr) (J := J_spec_l01Src_num_Wr) (K := K) (H := [(Option.some (Go.Eng.HE.mk Bool.false (Go.Eng.HB.exp Option.none [(Go.Eng.SV.slc 1 Option.none _), (Go.Eng.SV.int Go.IntKind.i64 _), (Go.Eng.SV.int Go.IntKind.u64 _), (Go.Eng.SV.int Go.IntKind.i64 _)]))), (Option.some (Go.Eng.HE.mk Bool.true (Go.Eng.HB.rows (Go.Sa.B.u8 _))))]) (noIt_ok) (by kernel_rfl) rfl ((e_spec_l01Src_num_Wr N _ _ _ _ _ K).trans h)
  · cases h
/-! ### loop.example/g00038/spec.DrawCrypt -/
abbrev sl_spec_DrawCrypt_r : SlotT := []
abbrev J_spec_DrawCrypt_r : JT := jn [] [] []
noncomputable def O_spec_DrawCrypt_r (N : Nat) : Orc E := addFn 90 (o_spec_l01Src_bytes_Wr N) (addFn 91 (o_spec_l01Src_n_Wr N) (addFn 89 (o_spec_l01Src_num_Wr N) (addFn 63 (o_spec_l01Src_key_Wr N) (addFn 61 (o_spec_l01Source_r N) (noFn)))))
theorem O_spec_DrawCrypt_r_ok (N : Nat) : OrcOk (O_spec_DrawCrypt_r N) := addFn_ok (o_spec_l01Src_bytes_Wr_ok N) (addFn_ok (o_spec_l01Src_n_Wr_ok N) (addFn_ok (o_spec_l01Src_num_Wr_ok N) (addFn_ok (o_spec_l01Src_key_Wr_ok N) (addFn_ok (o_spec_l01Source_r_ok N) (noFn_ok)))))
def g_spec_DrawCrypt_r (N : Nat) {R : Type} (b : Bool) (l : List Int) (k : ByteArray → Int → ByteArray → Option R) : Option R :=
  (g_spec_l01Source_r N b l fun n n1 =>
  (g_spec_l01Src_key_Wr N b (0 : Int) n n1 l fun s n2 n3 =>
  (g_spec_l01Src_num_Wr N b n2 n3 n1 l fun n4 n5 n6 =>
  (g_spec_l01Src_n_Wr N (30 : Int) b n5 n6 n1 l fun n7 n8 n9 =>
  (g_spec_l01Src_bytes_Wr N n7 b n8 n9 n1 l fun s1 n10 n11 =>
  (k s n4 s1))))))
theorem e_spec_DrawCrypt_r (N : Nat) {R : Type} (b : Bool) (l : List Int) (K : AV → Hp E → Option R) :
    runFnI (E := E) (O_spec_DrawCrypt_r N) (noIt) sl_spec_DrawCrypt_r J_spec_DrawCrypt_r Go.Proofs.Try.f39 [(Go.Eng.AV.sc (Go.Eng.SV.slc 0 Option.none b))] [(Option.some (Go.Eng.HE.mk Bool.true (Go.Eng.HB.rows (Go.Sa.B.u8 l))))] K =
      g_spec_DrawCrypt_r N b l (fun s2 n12 s3 => K (Go.Eng.AV.tup [(Bool.false, [(Go.Eng.SV.str s2)]), (Bool.false, [(Go.Eng.SV.int Go.IntKind.i64 n12)]), (Bool.false, [(Go.Eng.SV.str s3)])]) [(Option.some (Go.Eng.HE.mk Bool.true (Go.Eng.HB.rows (Go.Sa.B.u8 l))))]) := by kernel_rfl
def o_spec_DrawCrypt_r (N : Nat) {R : Type} (args : List AV) (H : Hp E) (K : AV → Hp E → Option R) : Option R :=
  match args, H with
  | [(Go.Eng.AV.sc (Go.Eng.SV.slc 0 Option.none b))], [(Option.some (Go.Eng.HE.mk Bool.true (Go.Eng.HB.rows (Go.Sa.B.u8 l))))] => g_spec_DrawCrypt_r N b l (fun s2 n12 s3 => K (Go.Eng.AV.tup [(Bool.false, [(Go.Eng.SV.str s2)]), (Bool.false, [(Go.Eng.SV.int Go.IntKind.i64 n12)]), (Bool.false, [(Go.Eng.SV.str s3)])]) [(Option.some (Go.Eng.HE.mk Bool.true (Go.Eng.HB.rows (Go.Sa.B.u8 l))))])
  | _, _ => none
theorem o_spec_DrawCrypt_r_ok (N : Nat) : FnOk E 39 (o_spec_DrawCrypt_r N) := by
  intro R args H K r h
  unfold o_spec_DrawCrypt_r at h
  dsimp only at h
  split at h
  · exact fnB_ok (ids := []) (top := []) ok (O_spec_DrawCrypt_r_ok N) (jn_ok _ _ _) Go.Proofs.Try.func39 (by kernel_rfl) (IT := noIt) (sl := sl_spec_DrawCrypt_r) (J := J_spec_DrawCrypt_r) (K := K) (H := [(Option.some (Go.Eng.HE.mk Bool.true (Go.Eng.HB.rows (Go.Sa.B.u8 _))))]) (noIt_ok) (by kernel_rfl) rfl ((e_spec_DrawCrypt_r N _ _ K).trans h)
  · cases h
/-! ### loop.example/g00038/impl.ylongKey$1 -/
abbrev sl_impl_ylongKey_1 : SlotT := []
abbrev J_impl_ylongKey_1 : JT := jn [] [] []
noncomputable def O_impl_ylongKey_1 (N : Nat) : Orc E := noFn
theorem O_impl_ylongKey_1_ok (N : Nat) : OrcOk (O_impl_ylongKey_1 N) := noFn_ok
def g_impl_ylongKey_1 (N : Nat) {R : Type} (s : ByteArray) (k : Bool → Option R) : Option R :=
  (k (decide (((((ByteArray.size s) : Nat) : Int) > (4096 : Int)))))
theorem e_impl_ylongKey_1 (N : Nat) {R : Type} (s : ByteArray) (K : AV → Hp E → Option R) :
    runFnI (E := E) (O_impl_ylongKey_1 N) (noIt) sl_impl_ylongKey_1 J_impl_ylongKey_1 Go.Proofs.Try.f105 [(Go.Eng.AV.sc (Go.Eng.SV.str s))] [] K =
      g_impl_ylongKey_1 N s (fun b => K (Go.Eng.AV.sc (Go.Eng.SV.bool b)) []) := by kernel_rfl
def o_impl_ylongKey_1 (N : Nat) {R : Type} (args : List AV) (H : Hp E) (K : AV → Hp E → Option R) : Option R :=
  match args, H with
  | [(Go.Eng.AV.sc (Go.Eng.SV.str s))], [] => g_impl_ylongKey_1 N s (fun b => K (Go.Eng.AV.sc (Go.Eng.SV.bool b)) [])
  | _, _ => none
theorem o_impl_ylongKey_1_ok (N : Nat) : FnOk E 105 (o_impl_ylongKey_1 N) := by
  intro R args H K r h
  unfold o_impl_ylongKey_1 at h
  dsimp only at h
  split at h
  · exact fnB_ok (ids := []) (top := []) ok (O_impl_ylongKey_1_ok N) (jn_ok _ _ _) Go.Proofs.Try.func105 (by kernel_rfl) (IT := noIt) (sl := sl_impl_ylongKey_1) (J := J_impl_ylongKey_1) (K := K) (H := []) (noIt_ok) (by kernel_rfl) rfl ((e_impl_ylongKey_1 N _ K).trans h)
  · cases h
/-! ### slices.IndexFunc[[]string,string] -/
abbrev sl_slices_IndexFunc_string_Fimpl_ylongKey_1_w : SlotT := [(0, ([0, 1, 7, 8], [4]))]
abbrev J_slices_IndexFunc_string_Fimpl_ylongKey_1_w : JT := jn [] [] []
noncomputable def O_slices_IndexFunc_string_Fimpl_ylongKey_1_w (N : Nat) : Orc E := addFn 105 (o_impl_ylongKey_1 N) (noFn)
theorem O_slices_IndexFunc_string_Fimpl_ylongKey_1_w_ok (N : Nat) : OrcOk (O_slices_IndexFunc_string_Fimpl_ylongKey_1_w N) := addFn_ok (o_impl_ylongKey_1_ok N) (noFn_ok)
def s_slices_IndexFunc_string_Fimpl_ylongKey_1_w_0 (N : Nat) {R : Type} (b1 : Bool) (n : Int) (l1 : List ByteArray) (n1 : Int) (ag : Int → Option R)  (kR : Int → Option R) (kN : Option R) : Option R :=
  (cond (decide ((n1 < n)))
  (cond ((decide (((0 : Int) ≤ n1))) && (decide ((n1 < (((List.length l1) : Nat) : Int)))))
    (elemK l1 (Int.toNat n1) fun x =>
      (g_impl_ylongKey_1 N x fun b2 =>
      (cond b2
      (kR n1)
      (ag (Go.IntKind.wrap Go.IntKind.i64 (n1 + (1 : Int)))))))
    none)
  kN)
def l_slices_IndexFunc_string_Fimpl_ylongKey_1_w_0 (N : Nat) {R : Type} (b1 : Bool) (n : Int) (l1 : List ByteArray) (kR : Int → Option R) (kN : Option R) : Nat → Int → Option R
  | 0, _ => none
  | f + 1, n1 => s_slices_IndexFunc_string_Fimpl_ylongKey_1_w_0 N b1 n l1 n1 (fun n1 => l_slices_IndexFunc_string_Fimpl_ylongKey_1_w_0 N b1 n l1 kR kN f n1)  kR kN
def c_slices_IndexFunc_string_Fimpl_ylongKey_1_w_0 (N : Nat) {R : Type} (b1 : Bool) (n : Int) (l1 : List ByteArray) (n1 : Int) (kR : Int → Option R) (kN : Option R) : Option R := l_slices_IndexFunc_string_Fimpl_ylongKey_1_w_0 N b1 n l1 kR kN N n1
theorem se_slices_IndexFunc_string_Fimpl_ylongKey_1_w_0 (N : Nat) {R : Type} (b1 : Bool) (n : Int) (l1 : List ByteArray) (n1 : Int) (AG : List (Option AV) → Hp E → Option R) (KL : Ex → List (Option AV) → Hp E → Option R) :
    iterStep (E := E) (O_slices_IndexFunc_string_Fimpl_ylongKey_1_w N) (fun {R} => LI (noIt) 1 19 sl_slices_IndexFunc_string_Fimpl_ylongKey_1_w (R := R)) J_slices_IndexFunc_string_Fimpl_ylongKey_1_w 1 19 0 [0, 1, 7, 8] [4] (body Go.Proofs.Try.f123 0) AG KL [(Option.some (Go.Eng.AV.sc (Go.Eng.SV.slc 0 Option.none b1))), (Option.some (Go.Eng.AV.sc (Go.Eng.SV.fn 105 []))), (Option.some (Go.Eng.AV.sc (Go.Eng.SV.int Go.IntKind.i64 n))), (Option.some (Go.Eng.AV.sc (Go.Eng.SV.int Go.IntKind.i64 n1)))] [(Option.some (Go.Eng.HE.mk Bool.false (Go.Eng.HB.rows (Go.Sa.B.str l1))))] =
      s_slices_IndexFunc_string_Fimpl_ylongKey_1_w_0 N b1 n l1 n1 (fun n1 => AG [(Option.some (Go.Eng.AV.sc (Go.Eng.SV.slc 0 Option.none b1))), (Option.some (Go.Eng.AV.sc (Go.Eng.SV.fn 105 []))), (Option.some (Go.Eng.AV.sc (Go.Eng.SV.int Go.IntKind.i64 n))), (Option.some (Go.Eng.AV.sc (Go.Eng.SV.int Go.IntKind.i64 n1)))] [(Option.some (Go.Eng.HE.mk Bool.false (Go.Eng.HB.rows (Go.Sa.B.str l1))))])  (fun n4 => KL Go.Eng.Ex.ret [(Option.some (Go.Eng.AV.sc (Go.Eng.SV.int Go.IntKind.i64 n4)))] [(Option.some (Go.Eng.HE.mk Bool.false (Go.Eng.HB.rows (Go.Sa.B.str l1))))]) (KL Go.Eng.Ex.normal [Option.none] [(Option.some (Go.Eng.HE.mk Bool.false (Go.Eng.HB.rows (Go.Sa.B.str l1))))]) := by kernel_rfl
theorem le_slices_IndexFunc_string_Fimpl_ylongKey_1_w_0 (N : Nat) {R : Type} (b1 : Bool) (n : Int) (l1 : List ByteArray) (KL : Ex → List (Option AV) → Hp E → Option R) : ∀ (f : Nat), ∀ (n1 : Int), iterK (E := E) (O_slices_IndexFunc_string_Fimpl_ylongKey_1_w N) (fun {R} => LI (noIt) 1 19 sl_slices_IndexFunc_string_Fimpl_ylongKey_1_w (R := R)) J_slices_IndexFunc_string_Fimpl_ylongKey_1_w 1 19 0 [0, 1, 7, 8] [4] (body Go.Proofs.Try.f123 0) f [(Option.some (Go.Eng.AV.sc (Go.Eng.SV.slc 0 Option.none b1))), (Option.some (Go.Eng.AV.sc (Go.Eng.SV.fn 105 []))), (Option.some (Go.Eng.AV.sc (Go.Eng.SV.int Go.IntKind.i64 n))), (Option.some (Go.Eng.AV.sc (Go.Eng.SV.int Go.IntKind.i64 n1)))] [(Option.some (Go.Eng.HE.mk Bool.false (Go.Eng.HB.rows (Go.Sa.B.str l1))))] KL = l_slices_IndexFunc_string_Fimpl_ylongKey_1_w_0 N b1 n l1 (fun n4 => KL Go.Eng.Ex.ret [(Option.some (Go.Eng.AV.sc (Go.Eng.SV.int Go.IntKind.i64 n4)))] [(Option.some (Go.Eng.HE.mk Bool.false (Go.Eng.HB.rows (Go.Sa.B.str l1))))]) (KL Go.Eng.Ex.normal [Option.none] [(Option.some (Go.Eng.HE.mk Bool.false (Go.Eng.HB.rows (Go.Sa.B.str l1))))]) f n1 := by
  intro f
  induction f with
  | zero => intros; rfl
  | succ f ih =>
    intro n1
    rw [iterK_succ, se_slices_IndexFunc_string_Fimpl_ylongKey_1_w_0]
    exact (congrArg (fun z0 => s_slices_IndexFunc_string_Fimpl_ylongKey_1_w_0 N b1 n l1 n1 z0 (fun n4 => KL Go.Eng.Ex.ret [(Option.some (Go.Eng.AV.sc (Go.Eng.SV.int Go.IntKind.i64 n4)))] [(Option.some (Go.Eng.HE.mk Bool.false (Go.Eng.HB.rows (Go.Sa.B.str l1))))]) (KL Go.Eng.Ex.normal [Option.none] [(Option.some (Go.Eng.HE.mk Bool.false (Go.Eng.HB.rows (Go.Sa.B.str l1))))])) (funext fun n1 => ih n1))
def i_slices_IndexFunc_string_Fimpl_ylongKey_1_w_0 (N : Nat) {R : Type} (vs : List (Option AV)) (H : Hp E) (KL : Ex → List (Option AV) → Hp E → Option R) : Option R :=
  match vs, H with
  | [(Option.some (Go.Eng.AV.sc (Go.Eng.SV.slc 0 Option.none b1))), (Option.some (Go.Eng.AV.sc (Go.Eng.SV.fn 105 []))), (Option.some (Go.Eng.AV.sc (Go.Eng.SV.int Go.IntKind.i64 n))), (Option.some (Go.Eng.AV.sc (Go.Eng.SV.int Go.IntKind.i64 n1)))], [(Option.some (Go.Eng.HE.mk Bool.false (Go.Eng.HB.rows (Go.Sa.B.str l1))))] => c_slices_IndexFunc_string_Fimpl_ylongKey_1_w_0 N b1 n l1 n1 (fun n5 => KL Go.Eng.Ex.ret [(Option.some (Go.Eng.AV.sc (Go.Eng.SV.int Go.IntKind.i64 n5)))] [(Option.some (Go.Eng.HE.mk Bool.false (Go.Eng.HB.rows (Go.Sa.B.str l1))))]) (KL Go.Eng.Ex.normal [Option.none] [(Option.some (Go.Eng.HE.mk Bool.false (Go.Eng.HB.rows (Go.Sa.B.str l1))))])
  | _, _ => none
noncomputable def IT_slices_IndexFunc_string_Fimpl_ylongKey_1_w_0 (N : Nat) : Its E := addIt 0 (i_slices_IndexFunc_string_Fimpl_ylongKey_1_w_0 N) (noIt)
theorem IT_slices_IndexFunc_string_Fimpl_ylongKey_1_w_0_ok (N : Nat) : ItOk (IT_slices_IndexFunc_string_Fimpl_ylongKey_1_w_0 N) 1 19 sl_slices_IndexFunc_string_Fimpl_ylongKey_1_w (lsB Go.Proofs.Try.f123 [0]) :=
  addItB_ok (inner := []) ok (O_slices_IndexFunc_string_Fimpl_ylongKey_1_w_ok N) (jn_ok _ _ _) (noIt_ok) rfl (by kernel_rfl) rfl fun vs H KL r h => by
    unfold i_slices_IndexFunc_string_Fimpl_ylongKey_1_w_0 at h
    split at h
    · exact ⟨_, (le_slices_IndexFunc_string_Fimpl_ylongKey_1_w_0 N _ _ _ KL N _).trans h⟩
    · cases h
def g_slices_IndexFunc_string_Fimpl_ylongKey_1_w (N : Nat) {R : Type} (b : Bool) (l : List ByteArray) (k : Int → Option R) : Option R :=
  (c_slices_IndexFunc_string_Fimpl_ylongKey_1_w_0 N b (((List.length l) : Nat) : Int) l (0 : Int) (fun n2 =>
  (k n2)) (
  (k (-(1 : Int)))))
theorem e_slices_IndexFunc_string_Fimpl_ylongKey_1_w (N : Nat) {R : Type} (b : Bool) (l : List ByteArray) (K : AV → Hp E → Option R) :
    runFnI (E := E) (O_slices_IndexFunc_string_Fimpl_ylongKey_1_w N) (IT_slices_IndexFunc_string_Fimpl_ylongKey_1_w_0 N) sl_slices_IndexFunc_string_Fimpl_ylongKey_1_w J_slices_IndexFunc_string_Fimpl_ylongKey_1_w Go.Proofs.Try.f123 [(Go.Eng.AV.sc (Go.Eng.SV.slc 0 Option.none b)), (Go.Eng.AV.sc (Go.Eng.SV.fn 105 []))] [(Option.some (Go.Eng.HE.mk Bool.false (Go.Eng.HB.rows (Go.Sa.B.str l))))] K =
      g_slices_IndexFunc_string_Fimpl_ylongKey_1_w N b l (fun n3 => K (Go.Eng.AV.sc (Go.Eng.SV.int Go.IntKind.i64 n3)) [(Option.some (Go.Eng.HE.mk Bool.false (Go.Eng.HB.rows (Go.Sa.B.str l))))]) := by kernel_rfl
def o_slices_IndexFunc_string_Fimpl_ylongKey_1_w (N : Nat) {R : Type} (args : List AV) (H : Hp E) (K : AV → Hp E → Option R) : Option R :=
  match args, H with
  | [(Go.Eng.AV.sc (Go.Eng.SV.slc 0 Option.none b)), (Go.Eng.AV.sc (Go.Eng.SV.fn 105 []))], [(Option.some (Go.Eng.HE.mk Bool.false (Go.Eng.HB.rows (Go.Sa.B.str l))))] => g_slices_IndexFunc_string_Fimpl_ylongKey_1_w N b l (fun n3 => K (Go.Eng.AV.sc (Go.Eng.SV.int Go.IntKind.i64 n3)) [(Option.some (Go.Eng.HE.mk Bool.false (Go.Eng.HB.rows (Go.Sa.B.str l))))])
  | _, _ => none
theorem o_slices_IndexFunc_string_Fimpl_ylongKey_1_w_ok (N : Nat) : FnOk E 123 (o_slices_IndexFunc_string_Fimpl_ylongKey_1_w N) := by
  intro R args H K r h
  unfold o_slices_IndexFunc_string_Fimpl_ylongKey_1_w at h
  dsimp only at h
  split at h
  · exact fnB_ok (ids := [0]) (top := [0]) ok (O_slices_IndexFunc_string_Fimpl_ylongKey_1_w_ok N) (jn_ok _ _ _) Go.Proofs.Try.func123 (by kernel_rfl) (IT := IT_slices_IndexFunc_string_Fimpl_ylongKey_1_w_0 N) (sl := sl_slices_IndexFunc_string_Fimpl_ylongKey_1_w) (J := J_slices_IndexFunc_string_Fimpl_ylongKey_1_w) (K := K) (H := [(Option.some (Go.Eng.HE.mk Bool.false (Go.Eng.HB.rows (Go.Sa.B.str _))))]) (IT_slices_IndexFunc_string_Fimpl_ylongKey_1_w_0_ok N) (by kernel_rfl) rfl ((e_slices_IndexFunc_string_Fimpl_ylongKey_1_w N _ _ K).trans h)
  · cases h
/-! ### slices.ContainsFunc[[]string,string] -/
abbrev sl_slices_ContainsFunc_string_Fimpl_ylongKey_1_w : SlotT := []
abbrev J_slices_ContainsFunc_string_Fimpl_ylongKey_1_w : JT := jn [] [] []
noncomputable def O_slices_ContainsFunc_string_Fimpl_ylongKey_1_w (N : Nat) : Orc E := addFn 123 (o_slices_IndexFunc_string_Fimpl_ylongKey_1_w N) (noFn)
theorem O_slices_ContainsFunc_string_Fimpl_ylongKey_1_w_ok (N : Nat) : OrcOk (O_slices_ContainsFunc_string_Fimpl_ylongKey_1_w N) := addFn_ok (o_slices_IndexFunc_string_Fimpl_ylongKey_1_w_ok N) (noFn_ok)
def g_slices_ContainsFunc_string_Fimpl_ylongKey_1_w (N : Nat) {R : Type} (b : Bool) (l : List ByteArray) (k : Bool → Option R) : Option R :=
  (g_slices_IndexFunc_string_Fimpl_ylongKey_1_w N b l fun n =>
  (k (decide ((n ≥ (0 : Int))))))
theorem e_slices_ContainsFunc_string_Fimpl_ylongKey_1_w (N : Nat) {R : Type} (b : Bool) (l : List ByteArray) (K : AV → Hp E → Option R) :
    runFnI (E := E) (O_slices_ContainsFunc_string_Fimpl_ylongKey_1_w N) (noIt) sl_slices_ContainsFunc_string_Fimpl_ylongKey_1_w J_slices_ContainsFunc_string_Fimpl_ylongKey_1_w Go.Proofs.Try.f104 [(Go.Eng.AV.sc (Go.Eng.SV.slc 0 Option.none b)), (Go.Eng.AV.sc (Go.Eng.SV.fn 105 []))] [(Option.some (Go.Eng.HE.mk Bool.false (Go.Eng.HB.rows (Go.Sa.B.str l))))] K =
      g_slices_ContainsFunc_string_Fimpl_ylongKey_1_w N b l (fun b1 => K (Go.Eng.AV.sc (Go.Eng.SV.bool b1)) [(Option.some (Go.Eng.HE.mk Bool.false (Go.Eng.HB.rows (Go.Sa.B.str l))))]) := by kernel_rfl
def o_slices_ContainsFunc_string_Fimpl_ylongKey_1_w (N : Nat) {R : Type} (args : List AV) (H : Hp E) (K : AV → Hp E → Option R) : Option R :=
  match args, H with
  | [(Go.Eng.AV.sc (Go.Eng.SV.slc 0 Option.none b)), (Go.Eng.AV.sc (Go.Eng.SV.fn 105 []))], [(Option.some (Go.Eng.HE.mk Bool.false (Go.Eng.HB.rows (Go.Sa.B.str l))))] => g_slices_ContainsFunc_string_Fimpl_ylongKey_1_w N b l (fun b1 => K (Go.Eng.AV.sc (Go.Eng.SV.bool b1)) [(Option.some (Go.Eng.HE.mk Bool.false (Go.Eng.HB.rows (Go.Sa.B.str l))))])
  | _, _ => none
theorem o_slices_ContainsFunc_string_Fimpl_ylongKey_1_w_ok (N : Nat) : FnOk E 104 (o_slices_ContainsFunc_string_Fimpl_ylongKey_1_w N) := by
  intro R args H K r h
  unfold o_slices_ContainsFunc_string_Fimpl_ylongKey_1_w at h
  dsimp only at h
  split at h
  · exact fnB_ok (ids := []) (top := []) ok (O_slices_ContainsFunc_string_Fimpl_ylongKey_1_w_ok N) (jn_ok _ _ _) Go.Proofs.Try.func104 (by kernel_rfl) (IT := noIt) (sl := sl_slices_ContainsFunc_string_Fimpl_ylongKey_1_w) (J := J_slices_ContainsFunc_string_Fimpl_ylongKey_1_w) (K := K) (H := [(Option.some (Go.Eng.HE.mk Bool.false (Go.Eng.HB.rows (Go.Sa.B.str _))))]) (noIt_ok) (by kernel_rfl) rfl ((e_slices_ContainsFunc_string_Fimpl_ylongKey_1_w N _ _ K).trans h)
  · cases h
/-! ### loop.example/g00038/impl.ylongKey -/
abbrev sl_impl_ylongKey_w : SlotT := []
abbrev J_impl_ylongKey_w : JT := jn [] [] []
noncomputable def O_impl_ylongKey_w (N : Nat) : Orc E := addFn 104 (o_slices_ContainsFunc_string_Fimpl_ylongKey_1_w N) (noFn)
theorem O_impl_ylongKey_w_ok (N : Nat) : OrcOk (O_impl_ylongKey_w N) := addFn_ok (o_slices_ContainsFunc_string_Fimpl_ylongKey_1_w_ok N) (noFn_ok)
def g_impl_ylongKey_w (N : Nat) {R : Type} (b : Bool) (l : List ByteArray) (k : Bool → Option R) : Option R :=
  (g_slices_ContainsFunc_string_Fimpl_ylongKey_1_w N b l fun b1 =>
  (k b1))
theorem e_impl_ylongKey_w (N : Nat) {R : Type} (b : Bool) (l : List ByteArray) (K : AV → Hp E → Option R) :
    runFnI (E := E) (O_impl_ylongKey_w N) (noIt) sl_impl_ylongKey_w J_impl_ylongKey_w Go.Proofs.Try.f57 [(Go.Eng.AV.sc (Go.Eng.SV.slc 0 Option.none b))] [(Option.some (Go.Eng.HE.mk Bool.false (Go.Eng.HB.rows (Go.Sa.B.str l))))] K =
      g_impl_ylongKey_w N b l (fun b2 => K (Go.Eng.AV.sc (Go.Eng.SV.bool b2)) [(Option.some (Go.Eng.HE.mk Bool.false (Go.Eng.HB.rows (Go.Sa.B.str l))))]) := by kernel_rfl
def o_impl_ylongKey_w (N : Nat) {R : Type} (args : List AV) (H : Hp E) (K : AV → Hp E → Option R) : Option R :=
  match args, H with
  | [(Go.Eng.AV.sc (Go.Eng.SV.slc 0 Option.none b))], [(Option.some (Go.Eng.HE.mk Bool.false (Go.Eng.HB.rows (Go.Sa.B.str l))))] => g_impl_ylongKey_w N b l (fun b2 => K (Go.Eng.AV.sc (Go.Eng.SV.bool b2)) [(Option.some (Go.Eng.HE.mk Bool.false (Go.Eng.HB.rows (Go.Sa.B.str l))))])
  | _, _ => none
theorem o_impl_ylongKey_w_ok (N : Nat) : FnOk E 57 (o_impl_ylongKey_w N) := by
  intro R args H K r h
  unfold o_impl_ylongKey_w at h
  dsimp only at h
  split at h
  · exact fnB_ok (ids := []) (top := []) ok (O_impl_ylongKey_w_ok N) (jn_ok _ _ _) Go.Proofs.Try.func57 (by kernel_rfl) (IT := noIt) (sl := sl_impl_ylongKey_w) (J := J_impl_ylongKey_w) (K := K) (H := [(Option.some (Go.Eng.HE.mk Bool.false (Go.Eng.HB.rows (Go.Sa.B.str _))))]) (noIt_ok) (by kernel_rfl) rfl ((e_impl_ylongKey_w N _ _ K).trans h)
  · cases h
/-! ### loop.example/g00038/impl.ybig -/
abbrev sl_impl_ybig_w : SlotT := [(0, ([5, 6, 7], [2]))]
abbrev J_impl_ybig_w : JT := jn [] [] []
noncomputable def O_impl_ybig_w (N : Nat) : Orc E := noFn
theorem O_impl_ybig_w_ok (N : Nat) : OrcOk (O_impl_ybig_w N) := noFn_ok
def s_impl_ybig_w_0 (N : Nat) {R : Type} (b1 : Bool) (n : Int) (l1 : List ByteArray) (n1 : Int) (ag : Int → Option R)  (kR : Option R) (kN : Option R) : Option R :=
  (cond (decide ((n1 < n)))
  (cond ((decide (((0 : Int) ≤ n1))) && (decide ((n1 < (((List.length l1) : Nat) : Int)))))
    (elemK l1 (Int.toNat n1) fun x =>
      (cond (decide (((((ByteArray.size x) : Nat) : Int) > (65536 : Int))))
      kR
      (ag (Go.IntKind.wrap Go.IntKind.i64 (n1 + (1 : Int))))))
    none)
  kN)
def l_impl_ybig_w_0 (N : Nat) {R : Type} (b1 : Bool) (n : Int) (l1 : List ByteArray) (kR : Option R) (kN : Option R) : Nat → Int → Option R
  | 0, _ => none
  | f + 1, n1 => s_impl_ybig_w_0 N b1 n l1 n1 (fun n1 => l_impl_ybig_w_0 N b1 n l1 kR kN f n1)  kR kN
def c_impl_ybig_w_0 (N : Nat) {R : Type} (b1 : Bool) (n : Int) (l1 : List ByteArray) (n1 : Int) (kR : Option R) (kN : Option R) : Option R := l_impl_ybig_w_0 N b1 n l1 kR kN N n1
theorem se_impl_ybig_w_0 (N : Nat) {R : Type} (b1 : Bool) (n : Int) (l1 : List ByteArray) (n1 : Int) (AG : List (Option AV) → Hp E → Option R) (KL : Ex → List (Option AV) → Hp E → Option R) :
    iterStep (E := E) (O_impl_ybig_w N) (fun {R} => LI (noIt) 1 15 sl_impl_ybig_w (R := R)) J_impl_ybig_w 1 15 0 [5, 6, 7] [2] (body Go.Proofs.Try.f92 0) AG KL [(Option.some (Go.Eng.AV.sc (Go.Eng.SV.slc 0 Option.none b1))), (Option.some (Go.Eng.AV.sc (Go.Eng.SV.int Go.IntKind.i64 n))), (Option.some (Go.Eng.AV.sc (Go.Eng.SV.int Go.IntKind.i64 n1)))] [(Option.some (Go.Eng.HE.mk Bool.false (Go.Eng.HB.rows (Go.Sa.B.str l1))))] =
      s_impl_ybig_w_0 N b1 n l1 n1 (fun n1 => AG [(Option.some (Go.Eng.AV.sc (Go.Eng.SV.slc 0 Option.none b1))), (Option.some (Go.Eng.AV.sc (Go.Eng.SV.int Go.IntKind.i64 n))), (Option.some (Go.Eng.AV.sc (Go.Eng.SV.int Go.IntKind.i64 n1)))] [(Option.some (Go.Eng.HE.mk Bool.false (Go.Eng.HB.rows (Go.Sa.B.str l1))))])  (KL Go.Eng.Ex.ret [(Option.some (Go.Eng.AV.sc (Go.Eng.SV.bool Bool.true)))] [(Option.some (Go.Eng.HE.mk Bool.false (Go.Eng.HB.rows (Go.Sa.B.str l1))))]) (KL Go.Eng.Ex.normal [Option.none] [(Option.some (Go.Eng.HE.mk Bool.false (Go.Eng.HB.rows (Go.Sa.B.str l1))))]) := by kernel_rfl
theorem le_impl_ybig_w_0 (N : Nat) {R : Type} (b1 : Bool) (n : Int) (l1 : List ByteArray) (KL : Ex → List (Option AV) → Hp E → Option R) : ∀ (f : Nat), ∀ (n1 : Int), iterK (E := E) (O_impl_ybig_w N) (fun {R} => LI (noIt) 1 15 sl_impl_ybig_w (R := R)) J_impl_ybig_w 1 15 0 [5, 6, 7] [2] (body Go.Proofs.Try.f92 0) f [(Option.some (Go.Eng.AV.sc (Go.Eng.SV.slc 0 Option.none b1))), (Option.some (Go.Eng.AV.sc (Go.Eng.SV.int Go.IntKind.i64 n))), (Option.some (Go.Eng.AV.sc (Go.Eng.SV.int Go.IntKind.i64 n1)))] [(Option.some (Go.Eng.HE.mk Bool.false (Go.Eng.HB.rows (Go.Sa.B.str l1))))] KL = l_impl_ybig_w_0 N b1 n l1 (KL Go.Eng.Ex.ret [(Option.some (Go.Eng.AV.sc (Go.Eng.SV.bool Bool.true)))] [(Option.some (Go.Eng.HE.mk Bool.false (Go.Eng.HB.rows (Go.Sa.B.str l1))))]) (KL Go.Eng.Ex.normal [Option.none] [(Option.some (Go.Eng.HE.mk Bool.false (Go.Eng.HB.rows (Go.Sa.B.str l1))))]) f n1 := by
  intro f
  induction f with
  | zero => intros; rfl
  | succ f ih =>
    intro n1
    rw [iterK_succ, se_impl_ybig_w_0]
    exact (congrArg (fun z0 => s_impl_ybig_w_0 N b1 n l1 n1 z0 (KL Go.Eng.Ex.ret [(Option.some (Go.Eng.AV.sc (Go.Eng.SV.bool Bool.true)))] [(Option.some (Go.Eng.HE.mk Bool.false (Go.Eng.HB.rows (Go.Sa.B.str l1))))]) (KL Go.Eng.Ex.normal [Option.none] [(Option.some (Go.Eng.HE.mk Bool.false (Go.Eng.HB.rows (Go.Sa.B.str l1))))])) (funext fun n1 => ih n1))
def i_impl_ybig_w_0 (N : Nat) {R : Type} (vs : List (Option AV)) (H : Hp E) (KL : Ex → List (Option AV) → Hp E → Option R) : Option R :=
  match vs, H with
  | [(Option.some (Go.Eng.AV.sc (Go.Eng.SV.slc 0 Option.none b1))), (Option.some (Go.Eng.AV.sc (Go.Eng.SV.int Go.IntKind.i64 n))), (Option.some (Go.Eng.AV.sc (Go.Eng.SV.int Go.IntKind.i64 n1)))], [(Option.some (Go.Eng.HE.mk Bool.false (Go.Eng.HB.rows (Go.Sa.B.str l1))))] => c_impl_ybig_w_0 N b1 n l1 n1 (KL Go.Eng.Ex.ret [(Option.some (Go.Eng.AV.sc (Go.Eng.SV.bool Bool.true)))] [(Option.some (Go.Eng.HE.mk Bool.false (Go.Eng.HB.rows (Go.Sa.B.str l1))))]) (KL Go.Eng.Ex.normal [Option.none] [(Option.some (Go.Eng.HE.mk Bool.false (Go.Eng.HB.rows (Go.Sa.B.str l1))))])
  | _, _ => none
noncomputable def IT_impl_ybig_w_0 (N : Nat) : Its E := addIt 0 (i_impl_ybig_w_0 N) (noIt)
theorem IT_impl_ybig_w_0_ok (N : Nat) : ItOk (IT_impl_ybig_w_0 N) 1 15 sl_impl_ybig_w (lsB Go.Proofs.Try.f92 [0]) :=
  addItB_ok (inner := []) ok (O_impl_ybig_w_ok N) (jn_ok _ _ _) (noIt_ok) rfl (by kernel_rfl) rfl fun vs H KL r h => by
    unfold i_impl_ybig_w_0 at h
    split at h
    · exact ⟨_, (le_impl_ybig_w_0 N _ _ _ KL N _).trans h⟩
    · cases h
def g_impl_ybig_w (N : Nat) {R : Type} (b : Bool) (l : List ByteArray) (k : Bool → Option R) : Option R :=
  (c_impl_ybig_w_0 N b (((List.length l) : Nat) : Int) l (0 : Int) (
  (k Bool.true)) (
  (k Bool.false)))
theorem e_impl_ybig_w (N : Nat) {R : Type} (b : Bool) (l : List ByteArray) (K : AV → Hp E → Option R) :
    runFnI (E := E) (O_impl_ybig_w N) (IT_impl_ybig_w_0 N) sl_impl_ybig_w J_impl_ybig_w Go.Proofs.Try.f92 [(Go.Eng.AV.sc (Go.Eng.SV.slc 0 Option.none b))] [(Option.some (Go.Eng.HE.mk Bool.false (Go.Eng.HB.rows (Go.Sa.B.str l))))] K =
      g_impl_ybig_w N b l (fun b2 => K (Go.Eng.AV.sc (Go.Eng.SV.bool b2)) [(Option.some (Go.Eng.HE.mk Bool.false (Go.Eng.HB.rows (Go.Sa.B.str l))))]) := by kernel_rfl
def o_impl_ybig_w (N : Nat) {R : Type} (args : List AV) (H : Hp E) (K : AV → Hp E → Option R) : Option R :=
  match args, H with
  | [(Go.Eng.AV.sc (Go.Eng.SV.slc 0 Option.none b))], [(Option.some (Go.Eng.HE.mk Bool.false (Go.Eng.HB.rows (Go.Sa.B.str l))))] => g_impl_ybig_w N b l (fun b2 => K (Go.Eng.AV.sc (Go.Eng.SV.bool b2)) [(Option.some (Go.Eng.HE.mk Bool.false (Go.Eng.HB.rows (Go.Sa.B.str l))))])
  | _, _ => none
theorem o_impl_ybig_w_ok (N : Nat) : FnOk E 92 (o_impl_ybig_w N) := by
  intro R args H K r h
  unfold o_impl_ybig_w at h
  dsimp only at h
  split at h
  · exact fnB_ok (ids := [0]) (top := [0]) ok (O_impl_ybig_w_ok N) (jn_ok _ _ _) Go.Proofs.Try.func92 (by kernel_rfl) (IT := IT_impl_ybig_w_0 N) (sl := sl_impl_ybig_w) (J := J_impl_ybig_w) (K := K) (H := [(Option.some (Go.Eng.HE.mk Bool.false (Go.Eng.HB.rows (Go.Sa.B.str _))))]) (IT_impl_ybig_w_0_ok N) (by kernel_rfl) rfl ((e_impl_ybig_w N _ _ K).trans h)
  · cases h
end Go.Sa
