import Derived.Test.YtmmgjioemnhoaaaSpec
import Derived.Test.YtmmgjioemnhoaaaPLb
set_option linter.all false
namespace Go.Sa
open Go Go.Eng Go.Proofs
set_option maxRecDepth 100000
theorem castPr {p q : Prop} (e : p = q) (h : p) : q := e ▸ h
/-! ### loop.example/g00038/spec.l01Source -/
abbrev sl_spec_l01Source_r : SlotT := [(0, ([0, 3, 4], [0, 3]))]
abbrev J_spec_l01Source_r : JT := jn [(3, [(15, .b)])] [] []
noncomputable def O_spec_l01Source_r (N : Nat) : Orc E := noFn
theorem O_spec_l01Source_r_ok (N : Nat) : OrcOk (O_spec_l01Source_r N) := noFn_ok
def s_spec_l01Source_r_0 (N : Nat) {R : Type} (b1 : Bool) (l1 : List Int) (b2 : Bool) (n1 : Int) (n3 : Int) (n : Int) (n2 : Int) (ag : Int → Int → Option R)  (kN : Int → Option R) : Option R :=
  (oK (cond (decide ((n < (((List.length l1) : Nat) : Int))))
    (some (decide ((n < (64 : Int)))))
    (some Bool.false)) fun j =>
  (cond j
  (cond ((decide (((0 : Int) ≤ n))) && (decide ((n < (((List.length l1) : Nat) : Int)))))
    (elemK l1 (Int.toNat n) fun x =>
      (ag (Go.IntKind.wrap Go.IntKind.i64 (n + (1 : Int))) (Go.IntKind.wrap Go.IntKind.u64 ((Go.IntKind.wrap Go.IntKind.u64 (((BitVec.toNat ((BitVec.ofInt 64 n2) ^^^ (BitVec.ofInt 64 (Go.IntKind.wrap Go.IntKind.u64 x)))) : Nat) : Int)) * (1099511628211 : Int)))))
    none)
  (kN n2)))
def l_spec_l01Source_r_0 (N : Nat) {R : Type} (b1 : Bool) (l1 : List Int) (b2 : Bool) (n1 : Int) (n3 : Int) (kN : Int → Option R) : Nat → Int → Int → Option R
  | 0, _, _ => none
  | f + 1, n, n2 => s_spec_l01Source_r_0 N b1 l1 b2 n1 n3 n n2 (fun n n2 => l_spec_l01Source_r_0 N b1 l1 b2 n1 n3 kN f n n2)  kN
def c_spec_l01Source_r_0 (N : Nat) {R : Type} (b1 : Bool) (l1 : List Int) (b2 : Bool) (n1 : Int) (n3 : Int) (n : Int) (n2 : Int) (kN : Int → Option R) : Option R := l_spec_l01Source_r_0 N b1 l1 b2 n1 n3 kN N n n2
theorem se_spec_l01Source_r_0 (N : Nat) {R : Type} (b1 : Bool) (l1 : List Int) (b2 : Bool) (n1 : Int) (n3 : Int) (n : Int) (n2 : Int) (AG : List (Option AV) → Hp E → Option R) (KL : Ex → List (Option AV) → Hp E → Option R) :
    iterStep (E := E) (O_spec_l01Source_r N) (fun {R} => LI (noIt) 1 46 sl_spec_l01Source_r (R := R)) J_spec_l01Source_r 1 46 0 [0, 3, 4] [0, 3] (body Go.Proofs.Try.f61 0) AG KL [(Option.some (Go.Eng.AV.sc (Go.Eng.SV.slc 0 Option.none b1))), (Option.some (Go.Eng.AV.sc (Go.Eng.SV.ptr 1 0 0))), (Option.some (Go.Eng.AV.sc (Go.Eng.SV.int Go.IntKind.i64 n)))] [(Option.some (Go.Eng.HE.mk Bool.true (Go.Eng.HB.rows (Go.Sa.B.u8 l1)))), (Option.some (Go.Eng.HE.mk Bool.false (Go.Eng.HB.exp Option.none [(Go.Eng.SV.slc 0 Option.none b2), (Go.Eng.SV.int Go.IntKind.i64 n1), (Go.Eng.SV.int Go.IntKind.u64 n2), (Go.Eng.SV.int Go.IntKind.i64 n3)])))] =
      s_spec_l01Source_r_0 N b1 l1 b2 n1 n3 n n2 (fun n n2 => AG [(Option.some (Go.Eng.AV.sc (Go.Eng.SV.slc 0 Option.none b1))), (Option.some (Go.Eng.AV.sc (Go.Eng.SV.ptr 1 0 0))), (Option.some (Go.Eng.AV.sc (Go.Eng.SV.int Go.IntKind.i64 n)))] [(Option.some (Go.Eng.HE.mk Bool.true (Go.Eng.HB.rows (Go.Sa.B.u8 l1)))), (Option.some (Go.Eng.HE.mk Bool.false (Go.Eng.HB.exp Option.none [(Go.Eng.SV.slc 0 Option.none b2), (Go.Eng.SV.int Go.IntKind.i64 n1), (Go.Eng.SV.int Go.IntKind.u64 n2), (Go.Eng.SV.int Go.IntKind.i64 n3)])))])  (fun n7 => KL Go.Eng.Ex.normal [(Option.some (Go.Eng.AV.sc (Go.Eng.SV.slc 0 Option.none b1))), (Option.some (Go.Eng.AV.sc (Go.Eng.SV.ptr 1 0 0)))] [(Option.some (Go.Eng.HE.mk Bool.true (Go.Eng.HB.rows (Go.Sa.B.u8 l1)))), (Option.some (Go.Eng.HE.mk Bool.false (Go.Eng.HB.exp Option.none [(Go.Eng.SV.slc 0 Option.none b2), (Go.Eng.SV.int Go.IntKind.i64 n1), (Go.Eng.SV.int Go.IntKind.u64 n7), (Go.Eng.SV.int Go.IntKind.i64 n3)])))]) := by kernel_rfl
theorem le_spec_l01Source_r_0 (N : Nat) {R : Type} (b1 : Bool) (l1 : List Int) (b2 : Bool) (n1 : Int) (n3 : Int) (KL : Ex → List (Option AV) → Hp E → Option R) : ∀ (f : Nat), ∀ (n : Int) (n2 : Int), iterK (E := E) (O_spec_l01Source_r N) (fun {R} => LI (noIt) 1 46 sl_spec_l01Source_r (R := R)) J_spec_l01Source_r 1 46 0 [0, 3, 4] [0, 3] (body Go.Proofs.Try.f61 0) f [(Option.some (Go.Eng.AV.sc (Go.Eng.SV.slc 0 Option.none b1))), (Option.some (Go.Eng.AV.sc (Go.Eng.SV.ptr 1 0 0))), (Option.some (Go.Eng.AV.sc (Go.Eng.SV.int Go.IntKind.i64 n)))] [(Option.some (Go.Eng.HE.mk Bool.true (Go.Eng.HB.rows (Go.Sa.B.u8 l1)))), (Option.some (Go.Eng.HE.mk Bool.false (Go.Eng.HB.exp Option.none [(Go.Eng.SV.slc 0 Option.none b2), (Go.Eng.SV.int Go.IntKind.i64 n1), (Go.Eng.SV.int Go.IntKind.u64 n2), (Go.Eng.SV.int Go.IntKind.i64 n3)])))] KL = l_spec_l01Source_r_0 N b1 l1 b2 n1 n3 (fun n7 => KL Go.Eng.Ex.normal [(Option.some (Go.Eng.AV.sc (Go.Eng.SV.slc 0 Option.none b1))), (Option.some (Go.Eng.AV.sc (Go.Eng.SV.ptr 1 0 0)))] [(Option.some (Go.Eng.HE.mk Bool.true (Go.Eng.HB.rows (Go.Sa.B.u8 l1)))), (Option.some (Go.Eng.HE.mk Bool.false (Go.Eng.HB.exp Option.none [(Go.Eng.SV.slc 0 Option.none b2), (Go.Eng.SV.int Go.IntKind.i64 n1), (Go.Eng.SV.int Go.IntKind.u64 n7), (Go.Eng.SV.int Go.IntKind.i64 n3)])))]) f n n2 := by
  intro f
  induction f with
  | zero => intros; rfl
  | succ f ih =>
    intro n n2
    rw [iterK_succ, se_spec_l01Source_r_0]
    exact (congrArg (fun z0 => s_spec_l01Source_r_0 N b1 l1 b2 n1 n3 n n2 z0 (fun n7 => KL Go.Eng.Ex.normal [(Option.some (Go.Eng.AV.sc (Go.Eng.SV.slc 0 Option.none b1))), (Option.some (Go.Eng.AV.sc (Go.Eng.SV.ptr 1 0 0)))] [(Option.some (Go.Eng.HE.mk Bool.true (Go.Eng.HB.rows (Go.Sa.B.u8 l1)))), (Option.some (Go.Eng.HE.mk Bool.false (Go.Eng.HB.exp Option.none [(Go.Eng.SV.slc 0 Option.none b2), (Go.Eng.SV.int Go.IntKind.i64 n1), (Go.Eng.SV.int Go.IntKind.u64 n7), (Go.Eng.SV.int Go.IntKind.i64 n3)])))])) (funext fun n => funext fun n2 => ih n n2))
def i_spec_l01Source_r_0 (N : Nat) {R : Type} (vs : List (Option AV)) (H : Hp E) (KL : Ex → List (Option AV) → Hp E → Option R) : Option R :=
  match vs, H with
  | [(Option.some (Go.Eng.AV.sc (Go.Eng.SV.slc 0 Option.none b1))), (Option.some (Go.Eng.AV.sc (Go.Eng.SV.ptr 1 0 0))), (Option.some (Go.Eng.AV.sc (Go.Eng.SV.int Go.IntKind.i64 n)))], [(Option.some (Go.Eng.HE.mk Bool.true (Go.Eng.HB.rows (Go.Sa.B.u8 l1)))), (Option.some (Go.Eng.HE.mk Bool.false (Go.Eng.HB.exp Option.none [(Go.Eng.SV.slc 0 Option.none b2), (Go.Eng.SV.int Go.IntKind.i64 n1), (Go.Eng.SV.int Go.IntKind.u64 n2), (Go.Eng.SV.int Go.IntKind.i64 n3)])))] => c_spec_l01Source_r_0 N b1 l1 b2 n1 n3 n n2 (fun n8 => KL Go.Eng.Ex.normal [(Option.some (Go.Eng.AV.sc (Go.Eng.SV.slc 0 Option.none b1))), (Option.some (Go.Eng.AV.sc (Go.Eng.SV.ptr 1 0 0)))] [(Option.some (Go.Eng.HE.mk Bool.true (Go.Eng.HB.rows (Go.Sa.B.u8 l1)))), (Option.some (Go.Eng.HE.mk Bool.false (Go.Eng.HB.exp Option.none [(Go.Eng.SV.slc 0 Option.none b2), (Go.Eng.SV.int Go.IntKind.i64 n1), (Go.Eng.SV.int Go.IntKind.u64 n8), (Go.Eng.SV.int Go.IntKind.i64 n3)])))])
  | _, _ => none
noncomputable def IT_spec_l01Source_r_0 (N : Nat) : Its E := addIt 0 (i_spec_l01Source_r_0 N) (noIt)
theorem IT_spec_l01Source_r_0_ok (N : Nat) : ItOk (IT_spec_l01Source_r_0 N) 1 46 sl_spec_l01Source_r (lsB Go.Proofs.Try.f61 [0]) :=
  addItB_ok (inner := []) ok (O_spec_l01Source_r_ok N) (jn_ok _ _ _) (noIt_ok) rfl (by kernel_rfl) rfl fun vs H KL r h => by
    unfold i_spec_l01Source_r_0 at h
    split at h
    · exact ⟨_, (le_spec_l01Source_r_0 N _ _ _ _ _ KL N _ _).trans h⟩
    · cases h
def g_spec_l01Source_r (N : Nat) {R : Type} (b : Bool) (l : List Int) (k : Int → Int → Option R) : Option R :=
  (c_spec_l01Source_r_0 N b l b (0 : Int) (0 : Int) (0 : Int) (88172645463325252 : Int) fun n4 =>
  (cond (decide (((((List.length l) : Nat) : Int) > (12 : Int))))
  (k n4 (12 : Int))
  (k n4 (((List.length l) : Nat) : Int))))
theorem e_spec_l01Source_r (N : Nat) {R : Type} (b : Bool) (l : List Int) (K : AV → Hp E → Option R) :
    runFnI (E := E) (O_spec_l01Source_r N) (IT_spec_l01Source_r_0 N) sl_spec_l01Source_r J_spec_l01Source_r Go.Proofs.Try.f61 [(Go.Eng.AV.sc (Go.Eng.SV.slc 0 Option.none b))] [(Option.some (Go.Eng.HE.mk Bool.true (Go.Eng.HB.rows (Go.Sa.B.u8 l))))] K =
      g_spec_l01Source_r N b l (fun n5 n6 => K (Go.Eng.AV.sc (Go.Eng.SV.ptr 1 0 0)) [(Option.some (Go.Eng.HE.mk Bool.true (Go.Eng.HB.rows (Go.Sa.B.u8 l)))), (Option.some (Go.Eng.HE.mk Bool.false (Go.Eng.HB.exp Option.none [(Go.Eng.SV.slc 0 Option.none b), (Go.Eng.SV.int Go.IntKind.i64 (0 : Int)), (Go.Eng.SV.int Go.IntKind.u64 n5), (Go.Eng.SV.int Go.IntKind.i64 n6)])))]) := by kernel_rfl
def o_spec_l01Source_r (N : Nat) {R : Type} (args : List AV) (H : Hp E) (K : AV → Hp E → Option R) : Option R :=
  match args, H with
  | [(Go.Eng.AV.sc (Go.Eng.SV.slc 0 Option.none b))], [(Option.some (Go.Eng.HE.mk Bool.true (Go.Eng.HB.rows (Go.Sa.B.u8 l))))] => g_spec_l01Source_r N b l (fun n5 n6 => K (Go.Eng.AV.sc (Go.Eng.SV.ptr 1 0 0)) [(Option.some (Go.Eng.HE.mk Bool.true (Go.Eng.HB.rows (Go.Sa.B.u8 l)))), (Option.some (Go.Eng.HE.mk Bool.false (Go.Eng.HB.exp Option.none [(Go.Eng.SV.slc 0 Option.none b), (Go.Eng.SV.int Go.IntKind.i64 (0 : Int)), (Go.Eng.SV.int Go.IntKind.u64 n5), (Go.Eng.SV.int Go.IntKind.i64 n6)])))])
  | _, _ => none
theorem o_spec_l01Source_r_ok (N : Nat) : FnOk E 61 (o_spec_l01Source_r N) := by
  intro R args H K r h
  unfold o_spec_l01Source_r at h
  dsimp only at h
  split at h
  · exact fnB_ok (ids := [0]) (top := [0]) ok (O_spec_l01Source_r_ok N) (jn_ok _ _ _) Go.Proofs.Try.func61 (by kernel_rfl) (IT := IT_spec_l01Source_r_0 N) (sl := sl_spec_l01Source_r) (J := J_spec_l01Source_r) (K := K) (H := [(Option.some (Go.Eng.HE.mk Bool.true (Go.Eng.HB.rows (Go.Sa.B.u8 _))))]) (IT_spec_l01Source_r_0_ok N) (by kernel_rfl) rfl ((e_spec_l01Source_r N _ _ K).trans h)
  · cases h
/-! ### (*loop.example/g00038/spec.l01Src).n -/
abbrev sl_spec_l01Src_n_Wr : SlotT := []
abbrev J_spec_l01Src_n_Wr : JT := jn [] [] []
noncomputable def O_spec_l01Src_n_Wr (N : Nat) : Orc E := noFn
theorem O_spec_l01Src_n_Wr_ok (N : Nat) : OrcOk (O_spec_l01Src_n_Wr N) := noFn_ok
def g_spec_l01Src_n_Wr (N : Nat) {R : Type} (n : Int) (b : Bool) (n1 : Int) (n2 : Int) (n3 : Int) (l : List Int) (k : Int → Int → Int → Option R) : Option R :=
  (cond (decide ((n ≤ (1 : Int))))
  (k (0 : Int) n1 n2)
  (cond (decide ((n1 < (((List.length l) : Nat) : Int))))
    (cond ((decide (((0 : Int) ≤ n1))) && (decide ((n1 < (((List.length l) : Nat) : Int)))))
      (elemK l (Int.toNat n1) fun x =>
        (cond ((Go.IntKind.wrap Go.IntKind.u64 n) == (0 : Int))
        none
        (k (Go.IntKind.wrap Go.IntKind.i64 (Int.tmod (Go.IntKind.wrap Go.IntKind.u64 ((Go.IntKind.wrap Go.IntKind.u64 x) + (Int.fdiv (Go.IntKind.wrap Go.IntKind.u64 (((BitVec.toNat ((BitVec.ofInt 64 (Go.IntKind.wrap Go.IntKind.u64 (((BitVec.toNat ((BitVec.ofInt 64 (Go.IntKind.wrap Go.IntKind.u64 (((BitVec.toNat ((BitVec.ofInt 64 n2) ^^^ (BitVec.ofInt 64 (Go.IntKind.wrap Go.IntKind.u64 (n2 * (8192 : Int)))))) : Nat) : Int))) ^^^ (BitVec.ofInt 64 (Int.fdiv (Go.IntKind.wrap Go.IntKind.u64 (((BitVec.toNat ((BitVec.ofInt 64 n2) ^^^ (BitVec.ofInt 64 (Go.IntKind.wrap Go.IntKind.u64 (n2 * (8192 : Int)))))) : Nat) : Int)) (128 : Int))))) : Nat) : Int))) ^^^ (BitVec.ofInt 64 (Go.IntKind.wrap Go.IntKind.u64 ((Go.IntKind.wrap Go.IntKind.u64 (((BitVec.toNat ((BitVec.ofInt 64 (Go.IntKind.wrap Go.IntKind.u64 (((BitVec.toNat ((BitVec.ofInt 64 n2) ^^^ (BitVec.ofInt 64 (Go.IntKind.wrap Go.IntKind.u64 (n2 * (8192 : Int)))))) : Nat) : Int))) ^^^ (BitVec.ofInt 64 (Int.fdiv (Go.IntKind.wrap Go.IntKind.u64 (((BitVec.toNat ((BitVec.ofInt 64 n2) ^^^ (BitVec.ofInt 64 (Go.IntKind.wrap Go.IntKind.u64 (n2 * (8192 : Int)))))) : Nat) : Int)) (128 : Int))))) : Nat) : Int)) * (131072 : Int)))))) : Nat) : Int)) (1048576 : Int)))) (Go.IntKind.wrap Go.IntKind.u64 n))) (Go.IntKind.wrap Go.IntKind.i64 (n1 + (1 : Int))) (Go.IntKind.wrap Go.IntKind.u64 (((BitVec.toNat ((BitVec.ofInt 64 (Go.IntKind.wrap Go.IntKind.u64 (((BitVec.toNat ((BitVec.ofInt 64 (Go.IntKind.wrap Go.IntKind.u64 (((BitVec.toNat ((BitVec.ofInt 64 n2) ^^^ (BitVec.ofInt 64 (Go.IntKind.wrap Go.IntKind.u64 (n2 * (8192 : Int)))))) : Nat) : Int))) ^^^ (BitVec.ofInt 64 (Int.fdiv (Go.IntKind.wrap Go.IntKind.u64 (((BitVec.toNat ((BitVec.ofInt 64 n2) ^^^ (BitVec.ofInt 64 (Go.IntKind.wrap Go.IntKind.u64 (n2 * (8192 : Int)))))) : Nat) : Int)) (128 : Int))))) : Nat) : Int))) ^^^ (BitVec.ofInt 64 (Go.IntKind.wrap Go.IntKind.u64 ((Go.IntKind.wrap Go.IntKind.u64 (((BitVec.toNat ((BitVec.ofInt 64 (Go.IntKind.wrap Go.IntKind.u64 (((BitVec.toNat ((BitVec.ofInt 64 n2) ^^^ (BitVec.ofInt 64 (Go.IntKind.wrap Go.IntKind.u64 (n2 * (8192 : Int)))))) : Nat) : Int))) ^^^ (BitVec.ofInt 64 (Int.fdiv (Go.IntKind.wrap Go.IntKind.u64 (((BitVec.toNat ((BitVec.ofInt 64 n2) ^^^ (BitVec.ofInt 64 (Go.IntKind.wrap Go.IntKind.u64 (n2 * (8192 : Int)))))) : Nat) : Int)) (128 : Int))))) : Nat) : Int)) * (131072 : Int)))))) : Nat) : Int)))))
      none)
    (cond ((Go.IntKind.wrap Go.IntKind.u64 n) == (0 : Int))
      none
      (k (Go.IntKind.wrap Go.IntKind.i64 (Int.tmod (Go.IntKind.wrap Go.IntKind.u64 ((0 : Int) + (Int.fdiv (Go.IntKind.wrap Go.IntKind.u64 (((BitVec.toNat ((BitVec.ofInt 64 (Go.IntKind.wrap Go.IntKind.u64 (((BitVec.toNat ((BitVec.ofInt 64 (Go.IntKind.wrap Go.IntKind.u64 (((BitVec.toNat ((BitVec.ofInt 64 n2) ^^^ (BitVec.ofInt 64 (Go.IntKind.wrap Go.IntKind.u64 (n2 * (8192 : Int)))))) : Nat) : Int))) ^^^ (BitVec.ofInt 64 (Int.fdiv (Go.IntKind.wrap Go.IntKind.u64 (((BitVec.toNat ((BitVec.ofInt 64 n2) ^^^ (BitVec.ofInt 64 (Go.IntKind.wrap Go.IntKind.u64 (n2 * (8192 : Int)))))) : Nat) : Int)) (128 : Int))))) : Nat) : Int))) ^^^ (BitVec.ofInt 64 (Go.IntKind.wrap Go.IntKind.u64 ((Go.IntKind.wrap Go.IntKind.u64 (((BitVec.toNat ((BitVec.ofInt 64 (Go.IntKind.wrap Go.IntKind.u64 (((BitVec.toNat ((BitVec.ofInt 64 n2) ^^^ (BitVec.ofInt 64 (Go.IntKind.wrap Go.IntKind.u64 (n2 * (8192 : Int)))))) : Nat) : Int))) ^^^ (BitVec.ofInt 64 (Int.fdiv (Go.IntKind.wrap Go.IntKind.u64 (((BitVec.toNat ((BitVec.ofInt 64 n2) ^^^ (BitVec.ofInt 64 (Go.IntKind.wrap Go.IntKind.u64 (n2 * (8192 : Int)))))) : Nat) : Int)) (128 : Int))))) : Nat) : Int)) * (131072 : Int)))))) : Nat) : Int)) (1048576 : Int)))) (Go.IntKind.wrap Go.IntKind.u64 n))) n1 (Go.IntKind.wrap Go.IntKind.u64 (((BitVec.toNat ((BitVec.ofInt 64 (Go.IntKind.wrap Go.IntKind.u64 (((BitVec.toNat ((BitVec.ofInt 64 (Go.IntKind.wrap Go.IntKind.u64 (((BitVec.toNat ((BitVec.ofInt 64 n2) ^^^ (BitVec.ofInt 64 (Go.IntKind.wrap Go.IntKind.u64 (n2 * (8192 : Int)))))) : Nat) : Int))) ^^^ (BitVec.ofInt 64 (Int.fdiv (Go.IntKind.wrap Go.IntKind.u64 (((BitVec.toNat ((BitVec.ofInt 64 n2) ^^^ (BitVec.ofInt 64 (Go.IntKind.wrap Go.IntKind.u64 (n2 * (8192 : Int)))))) : Nat) : Int)) (128 : Int))))) : Nat) : Int))) ^^^ (BitVec.ofInt 64 (Go.IntKind.wrap Go.IntKind.u64 ((Go.IntKind.wrap Go.IntKind.u64 (((BitVec.toNat ((BitVec.ofInt 64 (Go.IntKind.wrap Go.IntKind.u64 (((BitVec.toNat ((BitVec.ofInt 64 n2) ^^^ (BitVec.ofInt 64 (Go.IntKind.wrap Go.IntKind.u64 (n2 * (8192 : Int)))))) : Nat) : Int))) ^^^ (BitVec.ofInt 64 (Int.fdiv (Go.IntKind.wrap Go.IntKind.u64 (((BitVec.toNat ((BitVec.ofInt 64 n2) ^^^ (BitVec.ofInt 64 (Go.IntKind.wrap Go.IntKind.u64 (n2 * (8192 : Int)))))) : Nat) : Int)) (128 : Int))))) : Nat) : Int)) * (131072 : Int)))))) : Nat) : Int))))))
theorem e_spec_l01Src_n_Wr (N : Nat) {R : Type} (n : Int) (b : Bool) (n1 : Int) (n2 : Int) (n3 : Int) (l : List Int) (K : AV → Hp E → Option R) :
    runFnI (E := E) (O_spec_l01Src_n_Wr N) (noIt) sl_spec_l01Src_n_Wr J_spec_l01Src_n_Wr Go.Proofs.Try.f91 [(Go.Eng.AV.sc (Go.Eng.SV.ptr 0 0 0)), (Go.Eng.AV.sc (Go.Eng.SV.int Go.IntKind.i64 n))] [(Option.some (Go.Eng.HE.mk Bool.false (Go.Eng.HB.exp Option.none [(Go.Eng.SV.slc 1 Option.none b), (Go.Eng.SV.int Go.IntKind.i64 n1), (Go.Eng.SV.int Go.IntKind.u64 n2), (Go.Eng.SV.int Go.IntKind.i64 n3)]))), (Option.some (Go.Eng.HE.mk Bool.true (Go.Eng.HB.rows (Go.Sa.B.u8 l))))] K =
      g_spec_l01Src_n_Wr N n b n1 n2 n3 l (fun n4 n5 n6 => K (Go.Eng.AV.sc (Go.Eng.SV.int Go.IntKind.i64 n4)) [(Option.some (Go.Eng.HE.mk Bool.false (Go.Eng.HB.exp Option.none [(Go.Eng.SV.slc 1 Option.none b), (Go.Eng.SV.int Go.IntKind.i64 n5), (Go.Eng.SV.int Go.IntKind.u64 n6), (Go.Eng.SV.int Go.IntKind.i64 n3)]))), (Option.some (Go.Eng.HE.mk Bool.true (Go.Eng.HB.rows (Go.Sa.B.u8 l))))]) := by kernel_rfl
def o_spec_l01Src_n_Wr (N : Nat) {R : Type} (args : List AV) (H : Hp E) (K : AV → Hp E → Option R) : Option R :=
  match args, H with
  | [(Go.Eng.AV.sc (Go.Eng.SV.ptr 0 0 0)), (Go.Eng.AV.sc (Go.Eng.SV.int Go.IntKind.i64 n))], [(Option.some (Go.Eng.HE.mk Bool.false (Go.Eng.HB.exp Option.none [(Go.Eng.SV.slc 1 Option.none b), (Go.Eng.SV.int Go.IntKind.i64 n1), (Go.Eng.SV.int Go.IntKind.u64 n2), (Go.Eng.SV.int Go.IntKind.i64 n3)]))), (Option.some (Go.Eng.HE.mk Bool.true (Go.Eng.HB.rows (Go.Sa.B.u8 l))))] => g_spec_l01Src_n_Wr N n b n1 n2 n3 l (fun n4 n5 n6 => K (Go.Eng.AV.sc (Go.Eng.SV.int Go.IntKind.i64 n4)) [(Option.some (Go.Eng.HE.mk Bool.false (Go.Eng.HB.exp Option.none [(Go.Eng.SV.slc 1 Option.none b), (Go.Eng.SV.int Go.IntKind.i64 n5), (Go.Eng.SV.int Go.IntKind.u64 n6), (Go.Eng.SV.int Go.IntKind.i64 n3)]))), (Option.some (Go.Eng.HE.mk Bool.true (Go.Eng.HB.rows (Go.Sa.B.u8 l))))])
  | _, _ => none
theorem o_spec_l01Src_n_Wr_ok (N : Nat) : FnOk E 91 (o_spec_l01Src_n_Wr N) := by
  intro R args H K r h
  unfold o_spec_l01Src_n_Wr at h
  dsimp only at h
  split at h
  · exact fnB_ok (ids := []) (top := []) ok (O_spec_l01Src_n_Wr_ok N) (jn_ok _ _ _) Go.Proofs.Try.func91 (by kernel_rfl) (IT := noIt) (sl := sl_spec_l01Src_n_Wr) (J := J_spec_l01Src_n_Wr) (K := K) (H := [(Option.some (Go.Eng.HE.mk Bool.false (Go.Eng.HB.exp Option.none [(Go.Eng.SV.slc 1 Option.none _), (Go.Eng.SV.int Go.IntKind.i64 _), (Go.Eng.SV.int Go.IntKind.u64 _), (Go.Eng.SV.int Go.IntKind.i64 _)]))), (Option.some (Go.Eng.HE.mk Bool.true (Go.Eng.HB.rows (Go.Sa.B.u8 _))))]) (noIt_ok) (by kernel_rfl) rfl ((e_spec_l01Src_n_Wr N _ _ _ _ _ _ K).trans h)
  · cases h
/-! ### (*loop.example/g00038/spec.l01Src).bytes -/
abbrev sl_spec_l01Src_bytes_Wr : SlotT := [(0, ([0, 1, 5, 6], [5]))]
abbrev J_spec_l01Src_bytes_Wr : JT := jn [] [] []
noncomputable def O_spec_l01Src_bytes_Wr (N : Nat) : Orc E := addFn 91 (o_spec_l01Src_n_Wr N) (noFn)
theorem O_spec_l01Src_bytes_Wr_ok (N : Nat) : OrcOk (O_spec_l01Src_bytes_Wr N) := addFn_ok (o_spec_l01Src_n_Wr_ok N) (noFn_ok)
def s_spec_l01Src_bytes_Wr_0 (N : Nat) {R : Type} (n4 : Int) (b2 : Bool) (n8 : Int) (l1 : List Int) (b1 : Bool) (n5 : Int) (n6 : Int) (n7 : Int) (l2 : List Int) (ag : Bool → Int → Int → Int → (List Int) → Option R)  (kN : Bool → Int → Int → (List Int) → Option R) : Option R :=
  (cond (decide ((n5 < n4)))
  (g_spec_l01Src_n_Wr N (256 : Int) b2 n6 n7 n8 l1 fun n9 n10 n11 =>
    (cond (Go.Eng.roomOk ((List.length l2) + (List.length [(Go.IntKind.wrap Go.IntKind.u8 n9)])) 1)
    (ag (cond (Nat.beq (List.length [(Go.IntKind.wrap Go.IntKind.u8 n9)]) 0) b1 Bool.false) (Go.IntKind.wrap Go.IntKind.i64 (n5 + (1 : Int))) n10 n11 (l2 ++ [(Go.IntKind.wrap Go.IntKind.u8 n9)]))
    none))
  (kN b1 n6 n7 l2))
def l_spec_l01Src_bytes_Wr_0 (N : Nat) {R : Type} (n4 : Int) (b2 : Bool) (n8 : Int) (l1 : List Int) (kN : Bool → Int → Int → (List Int) → Option R) : Nat → Bool → Int → Int → Int → (List Int) → Option R
  | 0, _, _, _, _, _ => none
  | f + 1, b1, n5, n6, n7, l2 => s_spec_l01Src_bytes_Wr_0 N n4 b2 n8 l1 b1 n5 n6 n7 l2 (fun b1 n5 n6 n7 l2 => l_spec_l01Src_bytes_Wr_0 N n4 b2 n8 l1 kN f b1 n5 n6 n7 l2)  kN
def c_spec_l01Src_bytes_Wr_0 (N : Nat) {R : Type} (n4 : Int) (b2 : Bool) (n8 : Int) (l1 : List Int) (b1 : Bool) (n5 : Int) (n6 : Int) (n7 : Int) (l2 : List Int) (kN : Bool → Int → Int → (List Int) → Option R) : Option R := l_spec_l01Src_bytes_Wr_0 N n4 b2 n8 l1 kN N b1 n5 n6 n7 l2
theorem se_spec_l01Src_bytes_Wr_0 (N : Nat) {R : Type} (n4 : Int) (b2 : Bool) (n8 : Int) (l1 : List Int) (b1 : Bool) (n5 : Int) (n6 : Int) (n7 : Int) (l2 : List Int) (AG : List (Option AV) → Hp E → Option R) (KL : Ex → List (Option AV) → Hp E → Option R) :
    iterStep (E := E) (O_spec_l01Src_bytes_Wr N) (fun {R} => LI (noIt) 2 21 sl_spec_l01Src_bytes_Wr (R := R)) J_spec_l01Src_bytes_Wr 2 21 0 [0, 1, 5, 6] [5] (body Go.Proofs.Try.f90 0) AG KL [(Option.some (Go.Eng.AV.sc (Go.Eng.SV.ptr 0 0 0))), (Option.some (Go.Eng.AV.sc (Go.Eng.SV.int Go.IntKind.i64 n4))), (Option.some (Go.Eng.AV.sc (Go.Eng.SV.slc 2 Option.none b1))), (Option.some (Go.Eng.AV.sc (Go.Eng.SV.int Go.IntKind.i64 n5)))] [(Option.some (Go.Eng.HE.mk Bool.false (Go.Eng.HB.exp Option.none [(Go.Eng.SV.slc 1 Option.none b2), (Go.Eng.SV.int Go.IntKind.i64 n6), (Go.Eng.SV.int Go.IntKind.u64 n7), (Go.Eng.SV.int Go.IntKind.i64 n8)]))), (Option.some (Go.Eng.HE.mk Bool.true (Go.Eng.HB.rows (Go.Sa.B.u8 l1)))), (Option.some (Go.Eng.HE.mk Bool.false (Go.Eng.HB.rows (Go.Sa.B.u8 l2))))] =
      s_spec_l01Src_bytes_Wr_0 N n4 b2 n8 l1 b1 n5 n6 n7 l2 (fun b1 n5 n6 n7 l2 => AG [(Option.some (Go.Eng.AV.sc (Go.Eng.SV.ptr 0 0 0))), (Option.some (Go.Eng.AV.sc (Go.Eng.SV.int Go.IntKind.i64 n4))), (Option.some (Go.Eng.AV.sc (Go.Eng.SV.slc 2 Option.none b1))), (Option.some (Go.Eng.AV.sc (Go.Eng.SV.int Go.IntKind.i64 n5)))] [(Option.some (Go.Eng.HE.mk Bool.false (Go.Eng.HB.exp Option.none [(Go.Eng.SV.slc 1 Option.none b2), (Go.Eng.SV.int Go.IntKind.i64 n6), (Go.Eng.SV.int Go.IntKind.u64 n7), (Go.Eng.SV.int Go.IntKind.i64 n8)]))), (Option.some (Go.Eng.HE.mk Bool.true (Go.Eng.HB.rows (Go.Sa.B.u8 l1)))), (Option.some (Go.Eng.HE.mk Bool.false (Go.Eng.HB.rows (Go.Sa.B.u8 l2))))])  (fun b4 n16 n17 l4 => KL Go.Eng.Ex.normal [(Option.some (Go.Eng.AV.sc (Go.Eng.SV.slc 2 Option.none b4)))] [(Option.some (Go.Eng.HE.mk Bool.false (Go.Eng.HB.exp Option.none [(Go.Eng.SV.slc 1 Option.none b2), (Go.Eng.SV.int Go.IntKind.i64 n16), (Go.Eng.SV.int Go.IntKind.u64 n17), (Go.Eng.SV.int Go.IntKind.i64 n8)]))), (Option.some (Go.Eng.HE.mk Bool.true (Go.Eng.HB.rows (Go.Sa.B.u8 l1)))), (Option.some (Go.Eng.HE.mk Bool.false (Go.Eng.HB.rows (Go.Sa.B.u8 l4))))]) := by kernel_rfl
theorem le_spec_l01Src_bytes_Wr_0 (N : Nat) {R : Type} (n4 : Int) (b2 : Bool) (n8 : Int) (l1 : List Int) (KL : Ex → List (Option AV) → Hp E → Option R) : ∀ (f : Nat), ∀ (b1 : Bool) (n5 : Int) (n6 : Int) (n7 : Int) (l2 : List Int), iterK (E := E) (O_spec_l01Src_bytes_Wr N) (fun {R} => LI (noIt) 2 21 sl_spec_l01Src_bytes_Wr (R := R)) J_spec_l01Src_bytes_Wr 2 21 0 [0, 1, 5, 6] [5] (body Go.Proofs.Try.f90 0) f [(Option.some (Go.Eng.AV.sc (Go.Eng.SV.ptr 0 0 0))), (Option.some (Go.Eng.AV.sc (Go.Eng.SV.int Go.IntKind.i64 n4))), (Option.some (Go.Eng.AV.sc (Go.Eng.SV.slc 2 Option.none b1))), (Option.some (Go.Eng.AV.sc (Go.Eng.SV.int Go.IntKind.i64 n5)))] [(Option.some (Go.Eng.HE.mk Bool.false (Go.Eng.HB.exp Option.none [(Go.Eng.SV.slc 1 Option.none b2), (Go.Eng.SV.int Go.IntKind.i64 n6), (Go.Eng.SV.int Go.IntKind.u64 n7), (Go.Eng.SV.int Go.IntKind.i64 n8)]))), (Option.some (Go.Eng.HE.mk Bool.true (Go.Eng.HB.rows (Go.Sa.B.u8 l1)))), (Option.some (Go.Eng.HE.mk Bool.false (Go.Eng.HB.rows (Go.Sa.B.u8 l2))))] KL = l_spec_l01Src_bytes_Wr_0 N n4 b2 n8 l1 (fun b4 n16 n17 l4 => KL Go.Eng.Ex.normal [(Option.some (Go.Eng.AV.sc (Go.Eng.SV.slc 2 Option.none b4)))] [(Option.some (Go.Eng.HE.mk Bool.false (Go.Eng.HB.exp Option.none [(Go.Eng.SV.slc 1 Option.none b2), (Go.Eng.SV.int Go.IntKind.i64 n16), (Go.Eng.SV.int Go.IntKind.u64 n17), (Go.Eng.SV.int Go.IntKind.i64 n8)]))), (Option.some (Go.Eng.HE.mk Bool.true (Go.Eng.HB.rows (Go.Sa.B.u8 l1)))), (Option.some (Go.Eng.HE.mk Bool.false (Go.Eng.HB.rows (Go.Sa.B.u8 l4))))]) f b1 n5 n6 n7 l2 := by
  intro f
  induction f with
  | zero => intros; rfl
  | succ f ih =>
    intro b1 n5 n6 n7 l2
    rw [iterK_succ, se_spec_l01Src_bytes_Wr_0]
    exact (congrArg (fun z0 => s_spec_l01Src_bytes_Wr_0 N n4 b2 n8 l1 b1 n5 n6 n7 l2 z0 (fun b4 n16 n17 l4 => KL Go.Eng.Ex.normal [(Option.some (Go.Eng.AV.sc (Go.Eng.SV.slc 2 Option.none b4)))] [(Option.some (Go.Eng.HE.mk Bool.false (Go.Eng.HB.exp Option.none [(Go.Eng.SV.slc 1 Option.none b2), (Go.Eng.SV.int Go.IntKind.i64 n16), (Go.Eng.SV.int Go.IntKind.u64 n17), (Go.Eng.SV.int Go.IntKind.i64 n8)]))), (Option.some (Go.Eng.HE.mk Bool.true (Go.Eng.HB.rows (Go.Sa.B.u8 l1)))), (Option.some (Go.Eng.HE.mk Bool.false (Go.Eng.HB.rows (Go.Sa.B.u8 l4))))])) (funext fun b1 => funext fun n5 => funext fun n6 => funext fun n7 => funext fun l2 => ih b1 n5 n6 n7 l2))
def i_spec_l01Src_bytes_Wr_0 (N : Nat) {R : Type} (vs : List (Option AV)) (H : Hp E) (KL : Ex → List (Option AV) → Hp E → Option R) : Option R :=
  match vs, H with
  | [(Option.some (Go.Eng.AV.sc (Go.Eng.SV.ptr 0 0 0))), (Option.some (Go.Eng.AV.sc (Go.Eng.SV.int Go.IntKind.i64 n4))), (Option.some (Go.Eng.AV.sc (Go.Eng.SV.slc 2 Option.none b1))), (Option.some (Go.Eng.AV.sc (Go.Eng.SV.int Go.IntKind.i64 n5)))], [(Option.some (Go.Eng.HE.mk Bool.false (Go.Eng.HB.exp Option.none [(Go.Eng.SV.slc 1 Option.none b2), (Go.Eng.SV.int Go.IntKind.i64 n6), (Go.Eng.SV.int Go.IntKind.u64 n7), (Go.Eng.SV.int Go.IntKind.i64 n8)]))), (Option.some (Go.Eng.HE.mk Bool.true (Go.Eng.HB.rows (Go.Sa.B.u8 l1)))), (Option.some (Go.Eng.HE.mk Bool.false (Go.Eng.HB.rows (Go.Sa.B.u8 l2))))] => c_spec_l01Src_bytes_Wr_0 N n4 b2 n8 l1 b1 n5 n6 n7 l2 (fun b5 n18 n19 l5 => KL Go.Eng.Ex.normal [(Option.some (Go.Eng.AV.sc (Go.Eng.SV.slc 2 Option.none b5)))] [(Option.some (Go.Eng.HE.mk Bool.false (Go.Eng.HB.exp Option.none [(Go.Eng.SV.slc 1 Option.none b2), (Go.Eng.SV.int Go.IntKind.i64 n18), (Go.Eng.SV.int Go.IntKind.u64 n19), (Go.Eng.SV.int Go.IntKind.i64 n8)]))), (Option.some (Go.Eng.HE.mk Bool.true (Go.Eng.HB.rows (Go.Sa.B.u8 l1)))), (Option.some (Go.Eng.HE.mk Bool.false (Go.Eng.HB.rows (Go.Sa.B.u8 l5))))])
  | _, _ => none
noncomputable def IT_spec_l01Src_bytes_Wr_0 (N : Nat) : Its E := addIt 0 (i_spec_l01Src_bytes_Wr_0 N) (noIt)
theorem IT_spec_l01Src_bytes_Wr_0_ok (N : Nat) : ItOk (IT_spec_l01Src_bytes_Wr_0 N) 2 21 sl_spec_l01Src_bytes_Wr (lsB Go.Proofs.Try.f90 [0]) :=
  addItB_ok (inner := []) ok (O_spec_l01Src_bytes_Wr_ok N) (jn_ok _ _ _) (noIt_ok) rfl (by kernel_rfl) rfl fun vs H KL r h => by
    unfold i_spec_l01Src_bytes_Wr_0 at h
    split at h
    · exact ⟨_, (le_spec_l01Src_bytes_Wr_0 N _ _ _ _ KL N _ _ _ _ _).trans h⟩
    · cases h
def g_spec_l01Src_bytes_Wr (N : Nat) {R : Type} (n : Int) (b : Bool) (n1 : Int) (n2 : Int) (n3 : Int) (l : List Int) (k : ByteArray → Int → Int → Option R) : Option R :=
  (c_spec_l01Src_bytes_Wr_0 N n b n3 l Bool.false (0 : Int) n1 n2 [] fun b3 n12 n13 l3 =>
  (cond (Nat.ble (0 + (List.length l3)) (List.length l3))
  (k (Go.Eng.toBytes (Go.Eng.seg l3 0 (List.length l3))) n12 n13)
  none))
theorem e_spec_l01Src_bytes_Wr (N : Nat) {R : Type} (n : Int) (b : Bool) (n1 : Int) (n2 : Int) (n3 : Int) (l : List Int) (K : AV → Hp E → Option R) :
    runFnI (E := E) (O_spec_l01Src_bytes_Wr N) (IT_spec_l01Src_bytes_Wr_0 N) sl_spec_l01Src_bytes_Wr J_spec_l01Src_bytes_Wr Go.Proofs.Try.f90 [(Go.Eng.AV.sc (Go.Eng.SV.ptr 0 0 0)), (Go.Eng.AV.sc (Go.Eng.SV.int Go.IntKind.i64 n))] [(Option.some (Go.Eng.HE.mk Bool.false (Go.Eng.HB.exp Option.none [(Go.Eng.SV.slc 1 Option.none b), (Go.Eng.SV.int Go.IntKind.i64 n1), (Go.Eng.SV.int Go.IntKind.u64 n2), (Go.Eng.SV.int Go.IntKind.i64 n3)]))), (Option.some (Go.Eng.HE.mk Bool.true (Go.Eng.HB.rows (Go.Sa.B.u8 l))))] K =
      g_spec_l01Src_bytes_Wr N n b n1 n2 n3 l (fun s n14 n15 => K (Go.Eng.AV.sc (Go.Eng.SV.str s)) [(Option.some (Go.Eng.HE.mk Bool.false (Go.Eng.HB.exp Option.none [(Go.Eng.SV.slc 1 Option.none b), (Go.Eng.SV.int Go.IntKind.i64 n14), (Go.Eng.SV.int Go.IntKind.u64 n15), (Go.Eng.SV.int Go.IntKind.i64 n3)]))), (Option.some (Go.Eng.HE.mk Bool.true (Go.Eng.HB.rows (Go.Sa.B.u8 l))))]) := by kernel_rfl
def o_spec_l01Src_bytes_Wr (N : Nat) {R : Type} (args : List AV) (H : Hp E) (K : AV → Hp E → Option R) : Option R :=
  match args, H with
  | [(Go.Eng.AV.sc (Go.Eng.SV.ptr 0 0 0)), (Go.Eng.AV.sc (Go.Eng.SV.int Go.IntKind.i64 n))], [(Option.some (Go.Eng.HE.mk Bool.false (Go.Eng.HB.exp Option.none [(Go.Eng.SV.slc 1 Option.none b), (Go.Eng.SV.int Go.IntKind.i64 n1), (Go.Eng.SV.int Go.IntKind.u64 n2), (Go.Eng.SV.int Go.IntKind.i64 n3)]))), (Option.some (Go.Eng.HE.mk Bool.true (Go.Eng.HB.rows (Go.Sa.B.u8 l))))] => g_spec_l01Src_bytes_Wr N n b n1 n2 n3 l (fun s n14 n15 => K (Go.Eng.AV.sc (Go.Eng.SV.str s)) [(Option.some (Go.Eng.HE.mk Bool.false (Go.Eng.HB.exp Option.none [(Go.Eng.SV.slc 1 Option.none b), (Go.Eng.SV.int Go.IntKind.i64 n14), (Go.Eng.SV.int Go.IntKind.u64 n15), (Go.Eng.SV.int Go.IntKind.i64 n3)]))), (Option.some (Go.Eng.HE.mk Bool.true (Go.Eng.HB.rows (Go.Sa.B.u8 l))))])
  | _, _ => none
theorem o_spec_l01Src_bytes_Wr_ok (N : Nat) : FnOk E 90 (o_spec_l01Src_bytes_Wr N) := by
  intro R args H K r h
  unfold o_spec_l01Src_bytes_Wr at h
  dsimp only at h
  split at h
  · exact fnB_ok (ids := [0]) (top := [0]) ok (O_spec_l01Src_bytes_Wr_ok N) (jn_ok _ _ _) Go.Proofs.Try.func90 (by kernel_rfl) (IT := IT_spec_l01Src_bytes_Wr_0 N) (sl := sl_spec_l01Src_bytes_Wr) (J := J_spec_l01Src_bytes_Wr) (K := K) (H := [(Option.some (Go.Eng.HE.mk Bool.false (Go.Eng.HB.exp Option.none [(Go.Eng.SV.slc 1 Option.none _), (Go.Eng.SV.int Go.IntKind.i64 _), (Go.Eng.SV.int Go.IntKind.u64 _), (Go.Eng.SV.int Go.IntKind.i64 _)]))), (Option.some (Go.Eng.HE.mk Bool.true (Go.Eng.HB.rows (Go.Sa.B.u8 _))))]) (IT_spec_l01Src_bytes_Wr_0_ok N) (by kernel_rfl) rfl ((e_spec_l01Src_bytes_Wr N _ _ _ _ _ _ K).trans h)
  · cases h
/-! ### (*loop.example/g00038/spec.l01Src).one -/
abbrev sl_spec_l01Src_one_Wr : SlotT := []
abbrev J_spec_l01Src_one_Wr : JT := jn [] [] []
noncomputable def O_spec_l01Src_one_Wr (N : Nat) : Orc E := addFn 91 (o_spec_l01Src_n_Wr N) (noFn)
theorem O_spec_l01Src_one_Wr_ok (N : Nat) : OrcOk (O_spec_l01Src_one_Wr N) := addFn_ok (o_spec_l01Src_n_Wr_ok N) (noFn_ok)
def g_spec_l01Src_one_Wr (N : Nat) {R : Type} (n : Int) (b : Bool) (n1 : Int) (n2 : Int) (n3 : Int) (l : List Int) (k : Bool → Int → Int → Option R) : Option R :=
  (g_spec_l01Src_n_Wr N n b n1 n2 n3 l fun n4 n5 n6 =>
  (k (n4 == (0 : Int)) n5 n6))
theorem e_spec_l01Src_one_Wr (N : Nat) {R : Type} (n : Int) (b : Bool) (n1 : Int) (n2 : Int) (n3 : Int) (l : List Int) (K : AV → Hp E → Option R) :
    runFnI (E := E) (O_spec_l01Src_one_Wr N) (noIt) sl_spec_l01Src_one_Wr J_spec_l01Src_one_Wr Go.Proofs.Try.f94 [(Go.Eng.AV.sc (Go.Eng.SV.ptr 0 0 0)), (Go.Eng.AV.sc (Go.Eng.SV.int Go.IntKind.i64 n))] [(Option.some (Go.Eng.HE.mk Bool.false (Go.Eng.HB.exp Option.none [(Go.Eng.SV.slc 1 Option.none b), (Go.Eng.SV.int Go.IntKind.i64 n1), (Go.Eng.SV.int Go.IntKind.u64 n2), (Go.Eng.SV.int Go.IntKind.i64 n3)]))), (Option.some (Go.Eng.HE.mk Bool.true (Go.Eng.HB.rows (Go.Sa.B.u8 l))))] K =
      g_spec_l01Src_one_Wr N n b n1 n2 n3 l (fun b1 n7 n8 => K (Go.Eng.AV.sc (Go.Eng.SV.bool b1)) [(Option.some (Go.Eng.HE.mk Bool.false (Go.Eng.HB.exp Option.none [(Go.Eng.SV.slc 1 Option.none b), (Go.Eng.SV.int Go.IntKind.i64 n7), (Go.Eng.SV.int Go.IntKind.u64 n8), (Go.Eng.SV.int Go.IntKind.i64 n3)]))), (Option.some (Go.Eng.HE.mk Bool.true (Go.Eng.HB.rows (Go.Sa.B.u8 l))))]) := by kernel_rfl
def o_spec_l01Src_one_Wr (N : Nat) {R : Type} (args : List AV) (H : Hp E) (K : AV → Hp E → Option R) : Option R :=
  match args, H with
  | [(Go.Eng.AV.sc (Go.Eng.SV.ptr 0 0 0)), (Go.Eng.AV.sc (Go.Eng.SV.int Go.IntKind.i64 n))], [(Option.some (Go.Eng.HE.mk Bool.false (Go.Eng.HB.exp Option.none [(Go.Eng.SV.slc 1 Option.none b), (Go.Eng.SV.int Go.IntKind.i64 n1), (Go.Eng.SV.int Go.IntKind.u64 n2), (Go.Eng.SV.int Go.IntKind.i64 n3)]))), (Option.some (Go.Eng.HE.mk Bool.true (Go.Eng.HB.rows (Go.Sa.B.u8 l))))] => g_spec_l01Src_one_Wr N n b n1 n2 n3 l (fun b1 n7 n8 => K (Go.Eng.AV.sc (Go.Eng.SV.bool b1)) [(Option.some (Go.Eng.HE.mk Bool.false (Go.Eng.HB.exp Option.none [(Go.Eng.SV.slc 1 Option.none b), (Go.Eng.SV.int Go.IntKind.i64 n7), (Go.Eng.SV.int Go.IntKind.u64 n8), (Go.Eng.SV.int Go.IntKind.i64 n3)]))), (Option.some (Go.Eng.HE.mk Bool.true (Go.Eng.HB.rows (Go.Sa.B.u8 l))))])
  | _, _ => none
theorem o_spec_l01Src_one_Wr_ok (N : Nat) : FnOk E 94 (o_spec_l01Src_one_Wr N) := by
  intro R args H K r h
  unfold o_spec_l01Src_one_Wr at h
  dsimp only at h
  split at h
  · exact fnB_ok (ids := []) (top := []) ok (O_spec_l01Src_one_Wr_ok N) (jn_ok _ _ _) Go.Proofs.Try.func94 (by kernel_rfl) (IT := noIt) (sl := sl_spec_l01Src_one_Wr) (J := J_spec_l01Src_one_Wr) (K := K) (H := [(Option.some (Go.Eng.HE.mk Bool.false (Go.Eng.HB.exp Option.none [(Go.Eng.SV.slc 1 Option.none _), (Go.Eng.SV.int Go.IntKind.i64 _), (Go.Eng.SV.int Go.IntKind.u64 _), (Go.Eng.SV.int Go.IntKind.i64 _)]))), (Option.some (Go.Eng.HE.mk Bool.true (Go.Eng.HB.rows (Go.Sa.B.u8 _))))]) (noIt_ok) (by kernel_rfl) rfl ((e_spec_l01Src_one_Wr N _ _ _ _ _ _ K).trans h)
  · cases h
/-! ### (*loop.example/g00038/spec.l01Src).zeros -/
abbrev sl_spec_l01Src_zeros_Wr : SlotT := []
abbrev J_spec_l01Src_zeros_Wr : JT := jn [] [] []
noncomputable def O_spec_l01Src_zeros_Wr (N : Nat) : Orc E := noFn
theorem O_spec_l01Src_zeros_Wr_ok (N : Nat) : OrcOk (O_spec_l01Src_zeros_Wr N) := noFn_ok
def g_spec_l01Src_zeros_Wr (N : Nat) {R : Type} (n : Int) (b : Bool) (n1 : Int) (n2 : Int) (n3 : Int) (l : List Int) (k : ByteArray → Option R) : Option R :=
  (cond (((decide ((n = n))) && (decide (((0 : Int) ≤ n)))) && (Go.Eng.roomOk (Int.toNat n) 1))
  (cond (Nat.ble (0 + (List.length (List.replicate (Int.toNat n) (0 : Int)))) (List.length (List.replicate (Int.toNat n) (0 : Int))))
    (k (Go.Eng.toBytes (Go.Eng.seg (List.replicate (Int.toNat n) (0 : Int)) 0 (List.length (List.replicate (Int.toNat n) (0 : Int))))))
    none)
  none)
theorem e_spec_l01Src_zeros_Wr (N : Nat) {R : Type} (n : Int) (b : Bool) (n1 : Int) (n2 : Int) (n3 : Int) (l : List Int) (K : AV → Hp E → Option R) :
    runFnI (E := E) (O_spec_l01Src_zeros_Wr N) (noIt) sl_spec_l01Src_zeros_Wr J_spec_l01Src_zeros_Wr Go.Proofs.Try.f106 [(Go.Eng.AV.sc (Go.Eng.SV.ptr 0 0 0)), (Go.Eng.AV.sc (Go.Eng.SV.int Go.IntKind.i64 n))] [(Option.some (Go.Eng.HE.mk Bool.false (Go.Eng.HB.exp Option.none [(Go.Eng.SV.slc 1 Option.none b), (Go.Eng.SV.int Go.IntKind.i64 n1), (Go.Eng.SV.int Go.IntKind.u64 n2), (Go.Eng.SV.int Go.IntKind.i64 n3)]))), (Option.some (Go.Eng.HE.mk Bool.true (Go.Eng.HB.rows (Go.Sa.B.u8 l))))] K =
      g_spec_l01Src_zeros_Wr N n b n1 n2 n3 l (fun s => K (Go.Eng.AV.sc (Go.Eng.SV.str s)) [(Option.some (Go.Eng.HE.mk Bool.false (Go.Eng.HB.exp Option.none [(Go.Eng.SV.slc 1 Option.none b), (Go.Eng.SV.int Go.IntKind.i64 n1), (Go.Eng.SV.int Go.IntKind.u64 n2), (Go.Eng.SV.int Go.IntKind.i64 n3)]))), (Option.some (Go.Eng.HE.mk Bool.true (Go.Eng.HB.rows (Go.Sa.B.u8 l))))]) := by kernel_rfl
def o_spec_l01Src_zeros_Wr (N : Nat) {R : Type} (args : List AV) (H : Hp E) (K : AV → Hp E → Option R) : Option R :=
  match args, H with
  | [(Go.Eng.AV.sc (Go.Eng.SV.ptr 0 0 0)), (Go.Eng.AV.sc (Go.Eng.SV.int Go.IntKind.i64 n))], [(Option.some (Go.Eng.HE.mk Bool.false (Go.Eng.HB.exp Option.none [(Go.Eng.SV.slc 1 Option.none b), (Go.Eng.SV.int Go.IntKind.i64 n1), (Go.Eng.SV.int Go.IntKind.u64 n2), (Go.Eng.SV.int Go.IntKind.i64 n3)]))), (Option.some (Go.Eng.HE.mk Bool.true (Go.Eng.HB.rows (Go.Sa.B.u8 l))))] => g_spec_l01Src_zeros_Wr N n b n1 n2 n3 l (fun s => K (Go.Eng.AV.sc (Go.Eng.SV.str s)) [(Option.some (Go.Eng.HE.mk Bool.false (Go.Eng.HB.exp Option.none [(Go.Eng.SV.slc 1 Option.none b), (Go.Eng.SV.int Go.IntKind.i64 n1), (Go.Eng.SV.int Go.IntKind.u64 n2), (Go.Eng.SV.int Go.IntKind.i64 n3)]))), (Option.some (Go.Eng.HE.mk Bool.true (Go.Eng.HB.rows (Go.Sa.B.u8 l))))])
  | _, _ => none
theorem o_spec_l01Src_zeros_Wr_ok (N : Nat) : FnOk E 106 (o_spec_l01Src_zeros_Wr N) := by
  intro R args H K r h
  unfold o_spec_l01Src_zeros_Wr at h
  dsimp only at h
  split at h
  · exact fnB_ok (ids := []) (top := []) ok (O_spec_l01Src_zeros_Wr_ok N) (jn_ok _ _ _) Go.Proofs.Try.func106 (by kernel_rfl) (IT := noIt) (sl := sl_spec_l01Src_zeros_Wr) (J := J_spec_l01Src_zeros_Wr) (K := K) (H := [(Option.some (Go.Eng.HE.mk Bool.false (Go.Eng.HB.exp Option.none [(Go.Eng.SV.slc 1 Option.none _), (Go.Eng.SV.int Go.IntKind.i64 _), (Go.Eng.SV.int Go.IntKind.u64 _), (Go.Eng.SV.int Go.IntKind.i64 _)]))), (Option.some (Go.Eng.HE.mk Bool.true (Go.Eng.HB.rows (Go.Sa.B.u8 _))))]) (noIt_ok) (by kernel_rfl) rfl ((e_spec_l01Src_zeros_Wr N _ _ _ _ _ _ K).trans h)
  · cases h
/-! ### (*loop.example/g00038/spec.l01Src).pass -/
abbrev sl_spec_l01Src_pass_Wr : SlotT := []
abbrev J_spec_l01Src_pass_Wr : JT := jn [] [] []
noncomputable def O_spec_l01Src_pass_Wr (N : Nat) : Orc E := addFn 106 (o_spec_l01Src_zeros_Wr N) (addFn 91 (o_spec_l01Src_n_Wr N) (addFn 94 (o_spec_l01Src_one_Wr N) (noFn)))
theorem O_spec_l01Src_pass_Wr_ok (N : Nat) : OrcOk (O_spec_l01Src_pass_Wr N) := addFn_ok (o_spec_l01Src_zeros_Wr_ok N) (addFn_ok (o_spec_l01Src_n_Wr_ok N) (addFn_ok (o_spec_l01Src_one_Wr_ok N) (noFn_ok)))
def g_spec_l01Src_pass_Wr (N : Nat) {R : Type} (b : Bool) (n : Int) (n1 : Int) (n2 : Int) (l : List Int) (k : ByteArray → Int → Int → Option R) : Option R :=
  (g_spec_l01Src_one_Wr N (30 : Int) b n n1 n2 l fun b1 n3 n4 =>
  (cond b1
  (g_spec_l01Src_n_Wr N (2 : Int) b n3 n4 n2 l fun n5 n6 n7 =>
    (g_spec_l01Src_zeros_Wr N (Go.IntKind.wrap Go.IntKind.i64 ((4096 : Int) + n5)) b n6 n7 n2 l fun s =>
    (k s n6 n7)))
  (g_spec_l01Src_n_Wr N (5 : Int) b n3 n4 n2 l fun n8 n9 n10 =>
    (cond ((decide (((0 : Int) ≤ n8))) && (decide ((n8 < (5 : Int)))))
    (elemK [(ByteArray.mk (List.toArray [(111 : UInt8), (110 : UInt8), (101 : UInt8)])), (ByteArray.mk (List.toArray [(116 : UInt8), (119 : UInt8), (111 : UInt8)])), (ByteArray.mk (List.toArray [(116 : UInt8), (104 : UInt8), (114 : UInt8), (101 : UInt8), (101 : UInt8)])), (ByteArray.mk (List.toArray [(110 : UInt8), (111 : UInt8)])), (ByteArray.mk (List.toArray []))] (Int.toNat n8) fun x =>
      (k x n9 n10))
    none))))
theorem e_spec_l01Src_pass_Wr (N : Nat) {R : Type} (b : Bool) (n : Int) (n1 : Int) (n2 : Int) (l : List Int) (K : AV → Hp E → Option R) :
    runFnI (E := E) (O_spec_l01Src_pass_Wr N) (noIt) sl_spec_l01Src_pass_Wr J_spec_l01Src_pass_Wr Go.Proofs.Try.f99 [(Go.Eng.AV.sc (Go.Eng.SV.ptr 0 0 0))] [(Option.some (Go.Eng.HE.mk Bool.false (Go.Eng.HB.exp Option.none [(Go.Eng.SV.slc 1 Option.none b), (Go.Eng.SV.int Go.IntKind.i64 n), (Go.Eng.SV.int Go.IntKind.u64 n1), (Go.Eng.SV.int Go.IntKind.i64 n2)]))), (Option.some (Go.Eng.HE.mk Bool.true (Go.Eng.HB.rows (Go.Sa.B.u8 l))))] K =
      g_spec_l01Src_pass_Wr N b n n1 n2 l (fun s1 n11 n12 => K (Go.Eng.AV.sc (Go.Eng.SV.str s1)) [(Option.some (Go.Eng.HE.mk Bool.false (Go.Eng.HB.exp Option.none [(Go.Eng.SV.slc 1 Option.none b), (Go.Eng.SV.int Go.IntKind.i64 n11), (Go.Eng.SV.int Go.IntKind.u64 n12), (Go.Eng.SV.int Go.IntKind.i64 n2)]))), (Option.some (Go.Eng.HE.mk Bool.true (Go.Eng.HB.rows (Go.Sa.B.u8 l))))]) := by kernel_rfl
def o_spec_l01Src_pass_Wr (N : Nat) {R : Type} (args : List AV) (H : Hp E) (K : AV → Hp E → Option R) : Option R :=
  match args, H with
  | [(Go.Eng.AV.sc (Go.Eng.SV.ptr 0 0 0))], [(Option.some (Go.Eng.HE.mk Bool.false (Go.Eng.HB.exp Option.none [(Go.Eng.SV.slc 1 Option.none b), (Go.Eng.SV.int Go.IntKind.i64 n), (Go.Eng.SV.int Go.IntKind.u64 n1), (Go.Eng.SV.int Go.IntKind.i64 n2)]))), (Option.some (Go.Eng.HE.mk Bool.true (Go.Eng.HB.rows (Go.Sa.B.u8 l))))] => g_spec_l01Src_pass_Wr N b n n1 n2 l (fun s1 n11 n12 => K (Go.Eng.AV.sc (Go.Eng.SV.str s1)) [(Option.some (Go.Eng.HE.mk Bool.false (Go.Eng.HB.exp Option.none [(Go.Eng.SV.slc 1 Option.none b), (Go.Eng.SV.int Go.IntKind.i64 n11), (Go.Eng.SV.int Go.IntKind.u64 n12), (Go.Eng.SV.int Go.IntKind.i64 n2)]))), (Option.some (Go.Eng.HE.mk Bool.true (Go.Eng.HB.rows (Go.Sa.B.u8 l))))])
  | _, _ => none
theorem o_spec_l01Src_pass_Wr_ok (N : Nat) : FnOk E 99 (o_spec_l01Src_pass_Wr N) := by
  intro R args H K r h
  unfold o_spec_l01Src_pass_Wr at h
  dsimp only at h
  split at h
  · exact fnB_ok (ids := []) (top := []) ok (O_spec_l01Src_pass_Wr_ok N) (jn_ok _ _ _) Go.Proofs.Try.func99 (by kernel_rfl) (IT := noIt) (sl := sl_spec_l01Src_pass_Wr) (J := J_spec_l01Src_pass_Wr) (K := K) (H := [(Option.some (Go.Eng.HE.mk Bool.false (Go.Eng.HB.exp Option.none [(Go.Eng.SV.slc 1 Option.none _), (Go.Eng.SV.int Go.IntKind.i64 _), (Go.Eng.SV.int Go.IntKind.u64 _), (Go.Eng.SV.int Go.IntKind.i64 _)]))), (Option.some (Go.Eng.HE.mk Bool.true (Go.Eng.HB.rows (Go.Sa.B.u8 _))))]) (noIt_ok) (by kernel_rfl) rfl ((e_spec_l01Src_pass_Wr N _ _ _ _ _ K).trans h)
  · cases h
/-! ### loop.example/g00038/spec.DrawMakeVolume -/
abbrev sl_spec_DrawMakeVolume_r : SlotT := []
abbrev J_spec_DrawMakeVolume_r : JT := jn [] [] [(2, [3, 6, 8, 10, 13])]
noncomputable def O_spec_DrawMakeVolume_r (N : Nat) : Orc E := addFn 99 (o_spec_l01Src_pass_Wr N) (addFn 90 (o_spec_l01Src_bytes_Wr N) (addFn 91 (o_spec_l01Src_n_Wr N) (addFn 61 (o_spec_l01Source_r N) (noFn))))
def pa_spec_DrawMakeVolume_r__o_spec_l01Src_pass_Wr (N : Nat) (G_spec_l01Src_pass_Wr : ∀ {R : Type} (b : Bool) (n : Int) (n1 : Int) (n2 : Int) (l : List Int) (k : ByteArray → Int → Int → Option R), Option R) (G_spec_l01Src_bytes_Wr : ∀ {R : Type} (n : Int) (b : Bool) (n1 : Int) (n2 : Int) (n3 : Int) (l : List Int) (k : ByteArray → Int → Int → Option R), Option R) (G_spec_l01Src_n_Wr : ∀ {R : Type} (n : Int) (b : Bool) (n1 : Int) (n2 : Int) (n3 : Int) (l : List Int) (k : Int → Int → Int → Option R), Option R) (G_spec_l01Source_r : ∀ {R : Type} (b : Bool) (l : List Int) (k : Int → Int → Option R), Option R) {R : Type} (args : List AV) (H : Hp E) (K : AV → Hp E → Option R) : Option R :=
  match args, H with
  | [(Go.Eng.AV.sc (Go.Eng.SV.ptr 0 0 0))], [(Option.some (Go.Eng.HE.mk Bool.false (Go.Eng.HB.exp Option.none [(Go.Eng.SV.slc 1 Option.none b), (Go.Eng.SV.int Go.IntKind.i64 n), (Go.Eng.SV.int Go.IntKind.u64 n1), (Go.Eng.SV.int Go.IntKind.i64 n2)]))), (Option.some (Go.Eng.HE.mk Bool.true (Go.Eng.HB.rows (Go.Sa.B.u8 l))))] => G_spec_l01Src_pass_Wr b n n1 n2 l (fun s1 n11 n12 => K (Go.Eng.AV.sc (Go.Eng.SV.str s1)) [(Option.some (Go.Eng.HE.mk Bool.false (Go.Eng.HB.exp Option.none [(Go.Eng.SV.slc 1 Option.none b), (Go.Eng.SV.int Go.IntKind.i64 n11), (Go.Eng.SV.int Go.IntKind.u64 n12), (Go.Eng.SV.int Go.IntKind.i64 n2)]))), (Option.some (Go.Eng.HE.mk Bool.true (Go.Eng.HB.rows (Go.Sa.B.u8 l))))])
  | _, _ => none
def pa_spec_DrawMakeVolume_r__o_spec_l01Src_bytes_Wr (N : Nat) (G_spec_l01Src_pass_Wr : ∀ {R : Type} (b : Bool) (n : Int) (n1 : Int) (n2 : Int) (l : List Int) (k : ByteArray → Int → Int → Option R), Option R) (G_spec_l01Src_bytes_Wr : ∀ {R : Type} (n : Int) (b : Bool) (n1 : Int) (n2 : Int) (n3 : Int) (l : List Int) (k : ByteArray → Int → Int → Option R), Option R) (G_spec_l01Src_n_Wr : ∀ {R : Type} (n : Int) (b : Bool) (n1 : Int) (n2 : Int) (n3 : Int) (l : List Int) (k : Int → Int → Int → Option R), Option R) (G_spec_l01Source_r : ∀ {R : Type} (b : Bool) (l : List Int) (k : Int → Int → Option R), Option R) {R : Type} (args : List AV) (H : Hp E) (K : AV → Hp E → Option R) : Option R :=
  match args, H with
  | [(Go.Eng.AV.sc (Go.Eng.SV.ptr 0 0 0)), (Go.Eng.AV.sc (Go.Eng.SV.int Go.IntKind.i64 n))], [(Option.some (Go.Eng.HE.mk Bool.false (Go.Eng.HB.exp Option.none [(Go.Eng.SV.slc 1 Option.none b), (Go.Eng.SV.int Go.IntKind.i64 n1), (Go.Eng.SV.int Go.IntKind.u64 n2), (Go.Eng.SV.int Go.IntKind.i64 n3)]))), (Option.some (Go.Eng.HE.mk Bool.true (Go.Eng.HB.rows (Go.Sa.B.u8 l))))] => G_spec_l01Src_bytes_Wr n b n1 n2 n3 l (fun s n14 n15 => K (Go.Eng.AV.sc (Go.Eng.SV.str s)) [(Option.some (Go.Eng.HE.mk Bool.false (Go.Eng.HB.exp Option.none [(Go.Eng.SV.slc 1 Option.none b), (Go.Eng.SV.int Go.IntKind.i64 n14), (Go.Eng.SV.int Go.IntKind.u64 n15), (Go.Eng.SV.int Go.IntKind.i64 n3)]))), (Option.some (Go.Eng.HE.mk Bool.true (Go.Eng.HB.rows (Go.Sa.B.u8 l))))])
  | _, _ => none
def pa_spec_DrawMakeVolume_r__o_spec_l01Src_n_Wr (N : Nat) (G_spec_l01Src_pass_Wr : ∀ {R : Type} (b : Bool) (n : Int) (n1 : Int) (n2 : Int) (l : List Int) (k : ByteArray → Int → Int → Option R), Option R) (G_spec_l01Src_bytes_Wr : ∀ {R : Type} (n : Int) (b : Bool) (n1 : Int) (n2 : Int) (n3 : Int) (l : List Int) (k : ByteArray → Int → Int → Option R), Option R) (G_spec_l01Src_n_Wr : ∀ {R : Type} (n : Int) (b : Bool) (n1 : Int) (n2 : Int) (n3 : Int) (l : List Int) (k : Int → Int → Int → Option R), Option R) (G_spec_l01Source_r : ∀ {R : Type} (b : Bool) (l : List Int) (k : Int → Int → Option R), Option R) {R : Type} (args : List AV) (H : Hp E) (K : AV → Hp E → Option R) : Option R :=
  match args, H with
  | [(Go.Eng.AV.sc (Go.Eng.SV.ptr 0 0 0)), (Go.Eng.AV.sc (Go.Eng.SV.int Go.IntKind.i64 n))], [(Option.some (Go.Eng.HE.mk Bool.false (Go.Eng.HB.exp Option.none [(Go.Eng.SV.slc 1 Option.none b), (Go.Eng.SV.int Go.IntKind.i64 n1), (Go.Eng.SV.int Go.IntKind.u64 n2), (Go.Eng.SV.int Go.IntKind.i64 n3)]))), (Option.some (Go.Eng.HE.mk Bool.true (Go.Eng.HB.rows (Go.Sa.B.u8 l))))] => G_spec_l01Src_n_Wr n b n1 n2 n3 l (fun n4 n5 n6 => K (Go.Eng.AV.sc (Go.Eng.SV.int Go.IntKind.i64 n4)) [(Option.some (Go.Eng.HE.mk Bool.false (Go.Eng.HB.exp Option.none [(Go.Eng.SV.slc 1 Option.none b), (Go.Eng.SV.int Go.IntKind.i64 n5), (Go.Eng.SV.int Go.IntKind.u64 n6), (Go.Eng.SV.int Go.IntKind.i64 n3)]))), (Option.some (Go.Eng.HE.mk Bool.true (Go.Eng.HB.rows (Go.Sa.B.u8 l))))])
  | _, _ => none
def pa_spec_DrawMakeVolume_r__o_spec_l01Source_r (N : Nat) (G_spec_l01Src_pass_Wr : ∀ {R : Type} (b : Bool) (n : Int) (n1 : Int) (n2 : Int) (l : List Int) (k : ByteArray → Int → Int → Option R), Option R) (G_spec_l01Src_bytes_Wr : ∀ {R : Type} (n : Int) (b : Bool) (n1 : Int) (n2 : Int) (n3 : Int) (l : List Int) (k : ByteArray → Int → Int → Option R), Option R) (G_spec_l01Src_n_Wr : ∀ {R : Type} (n : Int) (b : Bool) (n1 : Int) (n2 : Int) (n3 : Int) (l : List Int) (k : Int → Int → Int → Option R), Option R) (G_spec_l01Source_r : ∀ {R : Type} (b : Bool) (l : List Int) (k : Int → Int → Option R), Option R) {R : Type} (args : List AV) (H : Hp E) (K : AV → Hp E → Option R) : Option R :=
  match args, H with
  | [(Go.Eng.AV.sc (Go.Eng.SV.slc 0 Option.none b))], [(Option.some (Go.Eng.HE.mk Bool.true (Go.Eng.HB.rows (Go.Sa.B.u8 l))))] => G_spec_l01Source_r b l (fun n5 n6 => K (Go.Eng.AV.sc (Go.Eng.SV.ptr 1 0 0)) [(Option.some (Go.Eng.HE.mk Bool.true (Go.Eng.HB.rows (Go.Sa.B.u8 l)))), (Option.some (Go.Eng.HE.mk Bool.false (Go.Eng.HB.exp Option.none [(Go.Eng.SV.slc 0 Option.none b), (Go.Eng.SV.int Go.IntKind.i64 (0 : Int)), (Go.Eng.SV.int Go.IntKind.u64 n5), (Go.Eng.SV.int Go.IntKind.i64 n6)])))])
  | _, _ => none
noncomputable def OA_spec_DrawMakeVolume_r (N : Nat) (G_spec_l01Src_pass_Wr : ∀ {R : Type} (b : Bool) (n : Int) (n1 : Int) (n2 : Int) (l : List Int) (k : ByteArray → Int → Int → Option R), Option R) (G_spec_l01Src_bytes_Wr : ∀ {R : Type} (n : Int) (b : Bool) (n1 : Int) (n2 : Int) (n3 : Int) (l : List Int) (k : ByteArray → Int → Int → Option R), Option R) (G_spec_l01Src_n_Wr : ∀ {R : Type} (n : Int) (b : Bool) (n1 : Int) (n2 : Int) (n3 : Int) (l : List Int) (k : Int → Int → Int → Option R), Option R) (G_spec_l01Source_r : ∀ {R : Type} (b : Bool) (l : List Int) (k : Int → Int → Option R), Option R) : Orc E := addFn 99 (pa_spec_DrawMakeVolume_r__o_spec_l01Src_pass_Wr N G_spec_l01Src_pass_Wr G_spec_l01Src_bytes_Wr G_spec_l01Src_n_Wr G_spec_l01Source_r) (addFn 90 (pa_spec_DrawMakeVolume_r__o_spec_l01Src_bytes_Wr N G_spec_l01Src_pass_Wr G_spec_l01Src_bytes_Wr G_spec_l01Src_n_Wr G_spec_l01Source_r) (addFn 91 (pa_spec_DrawMakeVolume_r__o_spec_l01Src_n_Wr N G_spec_l01Src_pass_Wr G_spec_l01Src_bytes_Wr G_spec_l01Src_n_Wr G_spec_l01Source_r) (addFn 61 (pa_spec_DrawMakeVolume_r__o_spec_l01Source_r N G_spec_l01Src_pass_Wr G_spec_l01Src_bytes_Wr G_spec_l01Src_n_Wr G_spec_l01Source_r) (noFn))))
theorem O_spec_DrawMakeVolume_r_ok (N : Nat) : OrcOk (O_spec_DrawMakeVolume_r N) := addFn_ok (o_spec_l01Src_pass_Wr_ok N) (addFn_ok (o_spec_l01Src_bytes_Wr_ok N) (addFn_ok (o_spec_l01Src_n_Wr_ok N) (addFn_ok (o_spec_l01Source_r_ok N) (noFn_ok))))
def g_spec_DrawMakeVolume_r (N : Nat) {R : Type} (b : Bool) (l : List Int) (k : ByteArray → ByteArray → Int → Option R) : Option R :=
  (g_spec_l01Source_r N b l fun n n1 =>
  (g_spec_l01Src_n_Wr N (6 : Int) b (0 : Int) n n1 l fun n2 n3 n4 =>
  (cond ((decide (((0 : Int) ≤ n2))) && (decide ((n2 < (6 : Int)))))
  (elemK [(16 : Int), (16 : Int), (16 : Int), (15 : Int), (17 : Int), (0 : Int)] (Int.toNat n2) fun x =>
    (g_spec_l01Src_bytes_Wr N x b n3 n4 n1 l fun s n5 n6 =>
    (g_spec_l01Src_pass_Wr N b n5 n6 n1 l fun s1 n7 n8 =>
    (g_spec_l01Src_n_Wr N (100 : Int) b n7 n8 n1 l fun n9 n10 n11 =>
    (g_spec_l01Src_n_Wr N (5 : Int) b n10 n11 n1 l fun n12 n13 n14 =>
    (cond ((decide (((0 : Int) ≤ n12))) && (decide ((n12 < (((List.length [n9, (-(1 : Int)), (4294967296 : Int), (4294967295 : Int), (7 : Int)]) : Nat) : Int)))))
    (elemK [n9, (-(1 : Int)), (4294967296 : Int), (4294967295 : Int), (7 : Int)] (Int.toNat n12) fun x1 =>
      (k s s1 x1))
    none))))))
  none)))
def ga_g_spec_DrawMakeVolume_r (N : Nat) (G_spec_l01Src_pass_Wr : ∀ {R : Type} (b : Bool) (n : Int) (n1 : Int) (n2 : Int) (l : List Int) (k : ByteArray → Int → Int → Option R), Option R) (G_spec_l01Src_bytes_Wr : ∀ {R : Type} (n : Int) (b : Bool) (n1 : Int) (n2 : Int) (n3 : Int) (l : List Int) (k : ByteArray → Int → Int → Option R), Option R) (G_spec_l01Src_n_Wr : ∀ {R : Type} (n : Int) (b : Bool) (n1 : Int) (n2 : Int) (n3 : Int) (l : List Int) (k : Int → Int → Int → Option R), Option R) (G_spec_l01Source_r : ∀ {R : Type} (b : Bool) (l : List Int) (k : Int → Int → Option R), Option R) {R : Type} (b : Bool) (l : List Int) (k : ByteArray → ByteArray → Int → Option R) : Option R :=
  (G_spec_l01Source_r b l fun n n1 =>
  (G_spec_l01Src_n_Wr (6 : Int) b (0 : Int) n n1 l fun n2 n3 n4 =>
  (cond ((decide (((0 : Int) ≤ n2))) && (decide ((n2 < (6 : Int)))))
  (elemK [(16 : Int), (16 : Int), (16 : Int), (15 : Int), (17 : Int), (0 : Int)] (Int.toNat n2) fun x =>
    (G_spec_l01Src_bytes_Wr x b n3 n4 n1 l fun s n5 n6 =>
    (G_spec_l01Src_pass_Wr b n5 n6 n1 l fun s1 n7 n8 =>
    (G_spec_l01Src_n_Wr (100 : Int) b n7 n8 n1 l fun n9 n10 n11 =>
    (G_spec_l01Src_n_Wr (5 : Int) b n10 n11 n1 l fun n12 n13 n14 =>
    (cond ((decide (((0 : Int) ≤ n12))) && (decide ((n12 < (((List.length [n9, (-(1 : Int)), (4294967296 : Int), (4294967295 : Int), (7 : Int)]) : Nat) : Int)))))
    (elemK [n9, (-(1 : Int)), (4294967296 : Int), (4294967295 : Int), (7 : Int)] (Int.toNat n12) fun x1 =>
      (k s s1 x1))
    none))))))
  none)))
theorem ea_e_spec_DrawMakeVolume_r (N : Nat) (G_spec_l01Src_pass_Wr : ∀ {R : Type} (b : Bool) (n : Int) (n1 : Int) (n2 : Int) (l : List Int) (k : ByteArray → Int → Int → Option R), Option R) (G_spec_l01Src_bytes_Wr : ∀ {R : Type} (n : Int) (b : Bool) (n1 : Int) (n2 : Int) (n3 : Int) (l : List Int) (k : ByteArray → Int → Int → Option R), Option R) (G_spec_l01Src_n_Wr : ∀ {R : Type} (n : Int) (b : Bool) (n1 : Int) (n2 : Int) (n3 : Int) (l : List Int) (k : Int → Int → Int → Option R), Option R) (G_spec_l01Source_r : ∀ {R : Type} (b : Bool) (l : List Int) (k : Int → Int → Option R), Option R) {R : Type} (b : Bool) (l : List Int) (K : AV → Hp E → Option R) :
    runFnI (E := E) (OA_spec_DrawMakeVolume_r N G_spec_l01Src_pass_Wr G_spec_l01Src_bytes_Wr G_spec_l01Src_n_Wr G_spec_l01Source_r) (noIt) sl_spec_DrawMakeVolume_r J_spec_DrawMakeVolume_r Go.Proofs.Try.f48 [(Go.Eng.AV.sc (Go.Eng.SV.slc 0 Option.none b))] [(Option.some (Go.Eng.HE.mk Bool.true (Go.Eng.HB.rows (Go.Sa.B.u8 l))))] K =
      ga_g_spec_DrawMakeVolume_r N G_spec_l01Src_pass_Wr G_spec_l01Src_bytes_Wr G_spec_l01Src_n_Wr G_spec_l01Source_r b l (fun s2 s3 n15 => K (Go.Eng.AV.tup [(Bool.false, [(Go.Eng.SV.str s2)]), (Bool.false, [(Go.Eng.SV.str s3)]), (Bool.false, [(Go.Eng.SV.int Go.IntKind.i64 n15)])]) [(Option.some (Go.Eng.HE.mk Bool.true (Go.Eng.HB.rows (Go.Sa.B.u8 l))))]) := by kernel_rfl
theorem e_spec_DrawMakeVolume_r (N : Nat) {R : Type} (b : Bool) (l : List Int) (K : AV → Hp E → Option R) :
    runFnI (E := E) (O_spec_DrawMakeVolume_r N) (noIt) sl_spec_DrawMakeVolume_r J_spec_DrawMakeVolume_r Go.Proofs.Try.f48 [(Go.Eng.AV.sc (Go.Eng.SV.slc 0 Option.none b))] [(Option.some (Go.Eng.HE.mk Bool.true (Go.Eng.HB.rows (Go.Sa.B.u8 l))))] K =
      g_spec_DrawMakeVolume_r N b l (fun s2 s3 n15 => K (Go.Eng.AV.tup [(Bool.false, [(Go.Eng.SV.str s2)]), (Bool.false, [(Go.Eng.SV.str s3)]), (Bool.false, [(Go.Eng.SV.int Go.IntKind.i64 n15)])]) [(Option.some (Go.Eng.HE.mk Bool.true (Go.Eng.HB.rows (Go.Sa.B.u8 l))))]) := castPr (by kernel_rfl) (ea_e_spec_DrawMakeVolume_r N (g_spec_l01Src_pass_Wr N) (g_spec_l01Src_bytes_Wr N) (g_spec_l01Src_n_Wr N) (g_spec_l01Source_r N) b l K)
def o_spec_DrawMakeVolume_r (N : Nat) {R : Type} (args : List AV) (H : Hp E) (K : AV → Hp E → Option R) : Option R :=
  match args, H with
  | [(Go.Eng.AV.sc (Go.Eng.SV.slc 0 Option.none b))], [(Option.some (Go.Eng.HE.mk Bool.true (Go.Eng.HB.rows (Go.Sa.B.u8 l))))] => g_spec_DrawMakeVolume_r N b l (fun s2 s3 n15 => K (Go.Eng.AV.tup [(Bool.false, [(Go.Eng.SV.str s2)]), (Bool.false, [(Go.Eng.SV.str s3)]), (Bool.false, [(Go.Eng.SV.int Go.IntKind.i64 n15)])]) [(Option.some (Go.Eng.HE.mk Bool.true (Go.Eng.HB.rows (Go.Sa.B.u8 l))))])
  | _, _ => none
theorem o_spec_DrawMakeVolume_r_ok (N : Nat) : FnOk E 48 (o_spec_DrawMakeVolume_r N) := by
  intro R args H K r h
  unfold o_spec_DrawMakeVolume_r at h
  dsimp only at h
  split at h
  · exact fnB_ok (ids := []) (top := []) ok (O_spec_DrawMakeVolume_r_ok N) (jn_ok _ _ _) Go.Proofs.Try.func48 (by kernel_rfl) (IT := noIt) (sl := sl_spec_DrawMakeVolume_r) (J := J_spec_DrawMakeVolume_r) (K := K) (H := [(Option.some (Go.Eng.HE.mk Bool.true (Go.Eng.HB.rows (Go.Sa.B.u8 _))))]) (noIt_ok) (by kernel_rfl) rfl ((e_spec_DrawMakeVolume_r N _ _ K).trans h)
  · cases h
/-! ### loop.example/g00038/spec.l01IsWord -/
abbrev sl_spec_l01IsWord : SlotT := []
abbrev J_spec_l01IsWord : JT := jn [(1, [(2, .b)])] [] []
noncomputable def O_spec_l01IsWord (N : Nat) : Orc E := noFn
theorem O_spec_l01IsWord_ok (N : Nat) : OrcOk (O_spec_l01IsWord N) := noFn_ok
def g_spec_l01IsWord (N : Nat) {R : Type} (n : Int) (k : Bool → Option R) : Option R :=
  (oK (cond (decide ((n ≥ (0 : Int))))
    (some (decide ((n < (4294967296 : Int)))))
    (some Bool.false)) fun j =>
  (k j))
theorem e_spec_l01IsWord (N : Nat) {R : Type} (n : Int) (K : AV → Hp E → Option R) :
    runFnI (E := E) (O_spec_l01IsWord N) (noIt) sl_spec_l01IsWord J_spec_l01IsWord Go.Proofs.Try.f78 [(Go.Eng.AV.sc (Go.Eng.SV.int Go.IntKind.i64 n))] [] K =
      g_spec_l01IsWord N n (fun b => K (Go.Eng.AV.sc (Go.Eng.SV.bool b)) []) := by kernel_rfl
def o_spec_l01IsWord (N : Nat) {R : Type} (args : List AV) (H : Hp E) (K : AV → Hp E → Option R) : Option R :=
  match args, H with
  | [(Go.Eng.AV.sc (Go.Eng.SV.int Go.IntKind.i64 n))], [] => g_spec_l01IsWord N n (fun b => K (Go.Eng.AV.sc (Go.Eng.SV.bool b)) [])
  | _, _ => none
theorem o_spec_l01IsWord_ok (N : Nat) : FnOk E 78 (o_spec_l01IsWord N) := by
  intro R args H K r h
  unfold o_spec_l01IsWord at h
  dsimp only at h
  split at h
  · exact fnB_ok (ids := []) (top := []) ok (O_spec_l01IsWord_ok N) (jn_ok _ _ _) Go.Proofs.Try.func78 (by kernel_rfl) (IT := noIt) (sl := sl_spec_l01IsWord) (J := J_spec_l01IsWord) (K := K) (H := []) (noIt_ok) (by kernel_rfl) rfl ((e_spec_l01IsWord N _ K).trans h)
  · cases h
/-! ### loop.example/g00038/spec.l01Mod -/
abbrev sl_spec_l01Mod : SlotT := []
abbrev J_spec_l01Mod : JT := jn [] [(10, [(5, .i .i64)])] []
noncomputable def O_spec_l01Mod (N : Nat) : Orc E := noFn
theorem O_spec_l01Mod_ok (N : Nat) : OrcOk (O_spec_l01Mod N) := noFn_ok
def g_spec_l01Mod (N : Nat) {R : Type} (n : Int) (n1 : Int) (k : Int → Option R) : Option R :=
  (cond (n1 == (0 : Int))
  none
  (oK (cond (decide (((Int.tmod n n1) < (0 : Int))))
      (some (Go.IntKind.wrap Go.IntKind.i64 ((Int.tmod n n1) + n1)))
      (some (Int.tmod n n1))) fun j =>
    (k j)))
theorem e_spec_l01Mod (N : Nat) {R : Type} (n : Int) (n1 : Int) (K : AV → Hp E → Option R) :
    runFnI (E := E) (O_spec_l01Mod N) (noIt) sl_spec_l01Mod J_spec_l01Mod Go.Proofs.Try.f113 [(Go.Eng.AV.sc (Go.Eng.SV.int Go.IntKind.i64 n)), (Go.Eng.AV.sc (Go.Eng.SV.int Go.IntKind.i64 n1))] [] K =
      g_spec_l01Mod N n n1 (fun n2 => K (Go.Eng.AV.sc (Go.Eng.SV.int Go.IntKind.i64 n2)) []) := by kernel_rfl
def o_spec_l01Mod (N : Nat) {R : Type} (args : List AV) (H : Hp E) (K : AV → Hp E → Option R) : Option R :=
  match args, H with
  | [(Go.Eng.AV.sc (Go.Eng.SV.int Go.IntKind.i64 n)), (Go.Eng.AV.sc (Go.Eng.SV.int Go.IntKind.i64 n1))], [] => g_spec_l01Mod N n n1 (fun n2 => K (Go.Eng.AV.sc (Go.Eng.SV.int Go.IntKind.i64 n2)) [])
  | _, _ => none
theorem o_spec_l01Mod_ok (N : Nat) : FnOk E 113 (o_spec_l01Mod N) := by
  intro R args H K r h
  unfold o_spec_l01Mod at h
  dsimp only at h
  split at h
  · exact fnB_ok (ids := []) (top := []) ok (O_spec_l01Mod_ok N) (jn_ok _ _ _) Go.Proofs.Try.func113 (by kernel_rfl) (IT := noIt) (sl := sl_spec_l01Mod) (J := J_spec_l01Mod) (K := K) (H := []) (noIt_ok) (by kernel_rfl) rfl ((e_spec_l01Mod N _ _ K).trans h)
  · cases h
/-! ### loop.example/g00038/spec.Word -/
abbrev sl_spec_Word : SlotT := []
abbrev J_spec_Word : JT := jn [] [] []
noncomputable def O_spec_Word (N : Nat) : Orc E := addFn 113 (o_spec_l01Mod N) (noFn)
theorem O_spec_Word_ok (N : Nat) : OrcOk (O_spec_Word N) := addFn_ok (o_spec_l01Mod_ok N) (noFn_ok)
def g_spec_Word (N : Nat) {R : Type} (n : Int) (k : Int → Option R) : Option R :=
  (g_spec_l01Mod N n (4294967296 : Int) fun n1 =>
  (k n1))
theorem e_spec_Word (N : Nat) {R : Type} (n : Int) (K : AV → Hp E → Option R) :
    runFnI (E := E) (O_spec_Word N) (noIt) sl_spec_Word J_spec_Word Go.Proofs.Try.f107 [(Go.Eng.AV.sc (Go.Eng.SV.int Go.IntKind.i64 n))] [] K =
      g_spec_Word N n (fun n2 => K (Go.Eng.AV.sc (Go.Eng.SV.int Go.IntKind.i64 n2)) []) := by kernel_rfl
def o_spec_Word (N : Nat) {R : Type} (args : List AV) (H : Hp E) (K : AV → Hp E → Option R) : Option R :=
  match args, H with
  | [(Go.Eng.AV.sc (Go.Eng.SV.int Go.IntKind.i64 n))], [] => g_spec_Word N n (fun n2 => K (Go.Eng.AV.sc (Go.Eng.SV.int Go.IntKind.i64 n2)) [])
  | _, _ => none
theorem o_spec_Word_ok (N : Nat) : FnOk E 107 (o_spec_Word N) := by
  intro R args H K r h
  unfold o_spec_Word at h
  dsimp only at h
  split at h
  · exact fnB_ok (ids := []) (top := []) ok (O_spec_Word_ok N) (jn_ok _ _ _) Go.Proofs.Try.func107 (by kernel_rfl) (IT := noIt) (sl := sl_spec_Word) (J := J_spec_Word) (K := K) (H := []) (noIt_ok) (by kernel_rfl) rfl ((e_spec_Word N _ K).trans h)
  · cases h
/-! ### loop.example/g00038/spec.PutWord -/
abbrev sl_spec_PutWord : SlotT := []
abbrev J_spec_PutWord : JT := jn [] [] []
noncomputable def O_spec_PutWord (N : Nat) : Orc E := addFn 107 (o_spec_Word N) (noFn)
theorem O_spec_PutWord_ok (N : Nat) : OrcOk (O_spec_PutWord N) := addFn_ok (o_spec_Word_ok N) (noFn_ok)
def g_spec_PutWord (N : Nat) {R : Type} (n : Int) (k : ByteArray → Option R) : Option R :=
  (g_spec_Word N n fun n1 =>
  (k (Go.Eng.toBytes (Go.Eng.seg [(Go.IntKind.wrap Go.IntKind.u8 n1), (Go.IntKind.wrap Go.IntKind.u8 (Int.fdiv n1 (256 : Int))), (Go.IntKind.wrap Go.IntKind.u8 (Int.fdiv n1 (65536 : Int))), (Go.IntKind.wrap Go.IntKind.u8 (Int.fdiv n1 (16777216 : Int)))] 0 (List.length [(Go.IntKind.wrap Go.IntKind.u8 n1), (Go.IntKind.wrap Go.IntKind.u8 (Int.fdiv n1 (256 : Int))), (Go.IntKind.wrap Go.IntKind.u8 (Int.fdiv n1 (65536 : Int))), (Go.IntKind.wrap Go.IntKind.u8 (Int.fdiv n1 (16777216 : Int)))])))))
theorem e_spec_PutWord (N : Nat) {R : Type} (n : Int) (K : AV → Hp E → Option R) :
    runFnI (E := E) (O_spec_PutWord N) (noIt) sl_spec_PutWord J_spec_PutWord Go.Proofs.Try.f93 [(Go.Eng.AV.sc (Go.Eng.SV.int Go.IntKind.i64 n))] [] K =
      g_spec_PutWord N n (fun s => K (Go.Eng.AV.sc (Go.Eng.SV.str s)) []) := by kernel_rfl
def o_spec_PutWord (N : Nat) {R : Type} (args : List AV) (H : Hp E) (K : AV → Hp E → Option R) : Option R :=
  match args, H with
  | [(Go.Eng.AV.sc (Go.Eng.SV.int Go.IntKind.i64 n))], [] => g_spec_PutWord N n (fun s => K (Go.Eng.AV.sc (Go.Eng.SV.str s)) [])
  | _, _ => none
theorem o_spec_PutWord_ok (N : Nat) : FnOk E 93 (o_spec_PutWord N) := by
  intro R args H K r h
  unfold o_spec_PutWord at h
  dsimp only at h
  split at h
  · exact fnB_ok (ids := []) (top := []) ok (O_spec_PutWord_ok N) (jn_ok _ _ _) Go.Proofs.Try.func93 (by kernel_rfl) (IT := noIt) (sl := sl_spec_PutWord) (J := J_spec_PutWord) (K := K) (H := []) (noIt_ok) (by kernel_rfl) rfl ((e_spec_PutWord N _ K).trans h)
  · cases h
/-! ### loop.example/g00038/spec.Mix -/
abbrev sl_spec_Mix : SlotT := [(0, ([0, 5, 6], [5]))]
abbrev J_spec_Mix : JT := jn [] [] []
noncomputable def O_spec_Mix (N : Nat) : Orc E := addFn 113 (o_spec_l01Mod N) (noFn)
theorem O_spec_Mix_ok (N : Nat) : OrcOk (O_spec_Mix N) := addFn_ok (o_spec_l01Mod_ok N) (noFn_ok)
def s_spec_Mix_0 (N : Nat) {R : Type} (s1 : ByteArray) (n2 : Int) (n3 : Int) (ag : Int → Int → Option R)  (kN : Int → Option R) : Option R :=
  (cond (decide ((n3 < (((ByteArray.size s1) : Nat) : Int))))
  (cond ((decide (((0 : Int) ≤ n3))) && (decide ((n3 < (((ByteArray.size s1) : Nat) : Int)))))
    (ag (Int.tmod (Go.IntKind.wrap Go.IntKind.i64 ((Go.IntKind.wrap Go.IntKind.i64 ((Go.IntKind.wrap Go.IntKind.i64 (n2 * (65599 : Int))) + (Go.IntKind.wrap Go.IntKind.i64 (Go.Eng.bt s1 (Int.toNat n3))))) + (1 : Int))) (2147483629 : Int)) (Go.IntKind.wrap Go.IntKind.i64 (n3 + (1 : Int))))
    none)
  (kN n2))
def l_spec_Mix_0 (N : Nat) {R : Type} (s1 : ByteArray) (kN : Int → Option R) : Nat → Int → Int → Option R
  | 0, _, _ => none
  | f + 1, n2, n3 => s_spec_Mix_0 N s1 n2 n3 (fun n2 n3 => l_spec_Mix_0 N s1 kN f n2 n3)  kN
def c_spec_Mix_0 (N : Nat) {R : Type} (s1 : ByteArray) (n2 : Int) (n3 : Int) (kN : Int → Option R) : Option R := l_spec_Mix_0 N s1 kN N n2 n3
theorem se_spec_Mix_0 (N : Nat) {R : Type} (s1 : ByteArray) (n2 : Int) (n3 : Int) (AG : List (Option AV) → Hp E → Option R) (KL : Ex → List (Option AV) → Hp E → Option R) :
    iterStep (E := E) (O_spec_Mix N) (fun {R} => LI (noIt) 0 32 sl_spec_Mix (R := R)) J_spec_Mix 0 32 0 [0, 5, 6] [5] (body Go.Proofs.Try.f74 0) AG KL [(Option.some (Go.Eng.AV.sc (Go.Eng.SV.str s1))), (Option.some (Go.Eng.AV.sc (Go.Eng.SV.int Go.IntKind.i64 n2))), (Option.some (Go.Eng.AV.sc (Go.Eng.SV.int Go.IntKind.i64 n3)))] [] =
      s_spec_Mix_0 N s1 n2 n3 (fun n2 n3 => AG [(Option.some (Go.Eng.AV.sc (Go.Eng.SV.str s1))), (Option.some (Go.Eng.AV.sc (Go.Eng.SV.int Go.IntKind.i64 n2))), (Option.some (Go.Eng.AV.sc (Go.Eng.SV.int Go.IntKind.i64 n3)))] [])  (fun n6 => KL Go.Eng.Ex.normal [(Option.some (Go.Eng.AV.sc (Go.Eng.SV.int Go.IntKind.i64 n6)))] []) := by kernel_rfl
theorem le_spec_Mix_0 (N : Nat) {R : Type} (s1 : ByteArray) (KL : Ex → List (Option AV) → Hp E → Option R) : ∀ (f : Nat), ∀ (n2 : Int) (n3 : Int), iterK (E := E) (O_spec_Mix N) (fun {R} => LI (noIt) 0 32 sl_spec_Mix (R := R)) J_spec_Mix 0 32 0 [0, 5, 6] [5] (body Go.Proofs.Try.f74 0) f [(Option.some (Go.Eng.AV.sc (Go.Eng.SV.str s1))), (Option.some (Go.Eng.AV.sc (Go.Eng.SV.int Go.IntKind.i64 n2))), (Option.some (Go.Eng.AV.sc (Go.Eng.SV.int Go.IntKind.i64 n3)))] [] KL = l_spec_Mix_0 N s1 (fun n6 => KL Go.Eng.Ex.normal [(Option.some (Go.Eng.AV.sc (Go.Eng.SV.int Go.IntKind.i64 n6)))] []) f n2 n3 := by
  intro f
  induction f with
  | zero => intros; rfl
  | succ f ih =>
    intro n2 n3
    rw [iterK_succ, se_spec_Mix_0]
    exact (congrArg (fun z0 => s_spec_Mix_0 N s1 n2 n3 z0 (fun n6 => KL Go.Eng.Ex.normal [(Option.some (Go.Eng.AV.sc (Go.Eng.SV.int Go.IntKind.i64 n6)))] [])) (funext fun n2 => funext fun n3 => ih n2 n3))
def i_spec_Mix_0 (N : Nat) {R : Type} (vs : List (Option AV)) (H : Hp E) (KL : Ex → List (Option AV) → Hp E → Option R) : Option R :=
  match vs, H with
  | [(Option.some (Go.Eng.AV.sc (Go.Eng.SV.str s1))), (Option.some (Go.Eng.AV.sc (Go.Eng.SV.int Go.IntKind.i64 n2))), (Option.some (Go.Eng.AV.sc (Go.Eng.SV.int Go.IntKind.i64 n3)))], [] => c_spec_Mix_0 N s1 n2 n3 (fun n7 => KL Go.Eng.Ex.normal [(Option.some (Go.Eng.AV.sc (Go.Eng.SV.int Go.IntKind.i64 n7)))] [])
  | _, _ => none
noncomputable def IT_spec_Mix_0 (N : Nat) : Its E := addIt 0 (i_spec_Mix_0 N) (noIt)
theorem IT_spec_Mix_0_ok (N : Nat) : ItOk (IT_spec_Mix_0 N) 0 32 sl_spec_Mix (lsB Go.Proofs.Try.f74 [0]) :=
  addItB_ok (inner := []) ok (O_spec_Mix_ok N) (jn_ok _ _ _) (noIt_ok) rfl (by kernel_rfl) rfl fun vs H KL r h => by
    unfold i_spec_Mix_0 at h
    split at h
    · exact ⟨_, (le_spec_Mix_0 N _ KL N _ _).trans h⟩
    · cases h
def g_spec_Mix (N : Nat) {R : Type} (s : ByteArray) (n : Int) (k : Int → Option R) : Option R :=
  (cond (decide (((((ByteArray.size s) : Nat) : Int) > (65536 : Int))))
  (k (0 : Int))
  (g_spec_l01Mod N n (2147483629 : Int) fun n1 =>
    (c_spec_Mix_0 N s (Go.IntKind.wrap Go.IntKind.i64 (n1 + (1 : Int))) (0 : Int) fun n4 =>
    (k (Int.tmod (Go.IntKind.wrap Go.IntKind.i64 ((Go.IntKind.wrap Go.IntKind.i64 (n4 * (40503 : Int))) + (77 : Int))) (2147483629 : Int))))))
theorem e_spec_Mix (N : Nat) {R : Type} (s : ByteArray) (n : Int) (K : AV → Hp E → Option R) :
    runFnI (E := E) (O_spec_Mix N) (IT_spec_Mix_0 N) sl_spec_Mix J_spec_Mix Go.Proofs.Try.f74 [(Go.Eng.AV.sc (Go.Eng.SV.str s)), (Go.Eng.AV.sc (Go.Eng.SV.int Go.IntKind.i64 n))] [] K =
      g_spec_Mix N s n (fun n5 => K (Go.Eng.AV.sc (Go.Eng.SV.int Go.IntKind.i64 n5)) []) := by kernel_rfl
def o_spec_Mix (N : Nat) {R : Type} (args : List AV) (H : Hp E) (K : AV → Hp E → Option R) : Option R :=
  match args, H with
  | [(Go.Eng.AV.sc (Go.Eng.SV.str s)), (Go.Eng.AV.sc (Go.Eng.SV.int Go.IntKind.i64 n))], [] => g_spec_Mix N s n (fun n5 => K (Go.Eng.AV.sc (Go.Eng.SV.int Go.IntKind.i64 n5)) [])
  | _, _ => none
theorem o_spec_Mix_ok (N : Nat) : FnOk E 74 (o_spec_Mix N) := by
  intro R args H K r h
  unfold o_spec_Mix at h
  dsimp only at h
  split at h
  · exact fnB_ok (ids := [0]) (top := [0]) ok (O_spec_Mix_ok N) (jn_ok _ _ _) Go.Proofs.Try.func74 (by kernel_rfl) (IT := IT_spec_Mix_0 N) (sl := sl_spec_Mix) (J := J_spec_Mix) (K := K) (H := []) (IT_spec_Mix_0_ok N) (by kernel_rfl) rfl ((e_spec_Mix N _ _ K).trans h)
  · cases h
end Go.Sa
