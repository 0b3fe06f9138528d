import Derived.Test.YtnopbegjbbbdhaaSpec
import Derived.Test.YtnopbegjbbbdhaaPLb
set_option linter.all false
namespace Go.Sa
open Go Go.Eng Go.Proofs
set_option maxRecDepth 100000
theorem castPr {p q : Prop} (e : p = q) (h : p) : q := e ▸ h
/-! ### loop.example/g00038/spec.l01Source -/
abbrev sl_spec_l01Source_r : SlotT := [(0, ([0, 3, 4], [0, 3]))]
abbrev J_spec_l01Source_r : JT := jn [(3, [(15, .b)])] [] []
noncomputable def O_spec_l01Source_r (N : Nat) : Orc E := noFn
theorem O_spec_l01Source_r_ok (N : Nat) : OrcOk (O_spec_l01Source_r N) := noFn_ok
def s_spec_l01Source_r_0 (N : Nat) {R : Type} (b1 : Bool) (l1 : List Int) (b2 : Bool) (n1 : Int) (n3 : Int) (n : Int) (n2 : Int) (ag : Int → Int → Option R)  (kN : Int → Option R) : Option R :=
  (oK (cond (decide ((n < (((List.length l1) : Nat) : Int))))
    (some (decide ((n < (64 : Int)))))
    (some Bool.false)) fun j =>
  (cond j
  (cond ((decide (((0 : Int) ≤ n))) && (decide ((n < (((List.length l1) : Nat) : Int)))))
    (elemK l1 (Int.toNat n) fun x =>
      (ag (Go.IntKind.wrap Go.IntKind.i64 (n + (1 : Int))) (Go.IntKind.wrap Go.IntKind.u64 ((Go.IntKind.wrap Go.IntKind.u64 (((BitVec.toNat ((BitVec.ofInt 64 n2) ^^^ (BitVec.ofInt 64 (Go.IntKind.wrap Go.IntKind.u64 x)))) : Nat) : Int)) * (1099511628211 : Int)))))
    none)
  (kN n2)))
def l_spec_l01Source_r_0 (N : Nat) {R : Type} (b1 : Bool) (l1 : List Int) (b2 : Bool) (n1 : Int) (n3 : Int) (kN : Int → Option R) : Nat → Int → Int → Option R
  | 0, _, _ => none
  | f + 1, n, n2 => s_spec_l01Source_r_0 N b1 l1 b2 n1 n3 n n2 (fun n n2 => l_spec_l01Source_r_0 N b1 l1 b2 n1 n3 kN f n n2)  kN
def c_spec_l01Source_r_0 (N : Nat) {R : Type} (b1 : Bool) (l1 : List Int) (b2 : Bool) (n1 : Int) (n3 : Int) (n : Int) (n2 : Int) (kN : Int → Option R) : Option R := l_spec_l01Source_r_0 N b1 l1 b2 n1 n3 kN N n n2
theorem se_spec_l01Source_r_0 (N : Nat) {R : Type} (b1 : Bool) (l1 : List Int) (b2 : Bool) (n1 : Int) (n3 : Int) (n : Int) (n2 : Int) (AG : List (Option AV) → Hp E → Option R) (KL : Ex → List (Option AV) → Hp E → Option R) :
    iterStep (E := E) (O_spec_l01Source_r N) (fun {R} => LI (noIt) 1 46 sl_spec_l01Source_r (R := R)) J_spec_l01Source_r 1 46 0 [0, 3, 4] [0, 3] (body Go.Proofs.Try.f101 0) AG KL [(Option.some (Go.Eng.AV.sc (Go.Eng.SV.slc 0 Option.none b1))), (Option.some (Go.Eng.AV.sc (Go.Eng.SV.ptr 1 0 0))), (Option.some (Go.Eng.AV.sc (Go.Eng.SV.int Go.IntKind.i64 n)))] [(Option.some (Go.Eng.HE.mk Bool.true (Go.Eng.HB.rows (Go.Sa.B.u8 l1)))), (Option.some (Go.Eng.HE.mk Bool.false (Go.Eng.HB.exp Option.none [(Go.Eng.SV.slc 0 Option.none b2), (Go.Eng.SV.int Go.IntKind.i64 n1), (Go.Eng.SV.int Go.IntKind.u64 n2), (Go.Eng.SV.int Go.IntKind.i64 n3)])))] =
      s_spec_l01Source_r_0 N b1 l1 b2 n1 n3 n n2 (fun n n2 => AG [(Option.some (Go.Eng.AV.sc (Go.Eng.SV.slc 0 Option.none b1))), (Option.some (Go.Eng.AV.sc (Go.Eng.SV.ptr 1 0 0))), (Option.some (Go.Eng.AV.sc (Go.Eng.SV.int Go.IntKind.i64 n)))] [(Option.some (Go.Eng.HE.mk Bool.true (Go.Eng.HB.rows (Go.Sa.B.u8 l1)))), (Option.some (Go.Eng.HE.mk Bool.false (Go.Eng.HB.exp Option.none [(Go.Eng.SV.slc 0 Option.none b2), (Go.Eng.SV.int Go.IntKind.i64 n1), (Go.Eng.SV.int Go.IntKind.u64 n2), (Go.Eng.SV.int Go.IntKind.i64 n3)])))])  (fun n7 => KL Go.Eng.Ex.normal [(Option.some (Go.Eng.AV.sc (Go.Eng.SV.slc 0 Option.none b1))), (Option.some (Go.Eng.AV.sc (Go.Eng.SV.ptr 1 0 0)))] [(Option.some (Go.Eng.HE.mk Bool.true (Go.Eng.HB.rows (Go.Sa.B.u8 l1)))), (Option.some (Go.Eng.HE.mk Bool.false (Go.Eng.HB.exp Option.none [(Go.Eng.SV.slc 0 Option.none b2), (Go.Eng.SV.int Go.IntKind.i64 n1), (Go.Eng.SV.int Go.IntKind.u64 n7), (Go.Eng.SV.int Go.IntKind.i64 n3)])))]) := by kernel_rfl
theorem le_spec_l01Source_r_0 (N : Nat) {R : Type} (b1 : Bool) (l1 : List Int) (b2 : Bool) (n1 : Int) (n3 : Int) (KL : Ex → List (Option AV) → Hp E → Option R) : ∀ (f : Nat), ∀ (n : Int) (n2 : Int), iterK (E := E) (O_spec_l01Source_r N) (fun {R} => LI (noIt) 1 46 sl_spec_l01Source_r (R := R)) J_spec_l01Source_r 1 46 0 [0, 3, 4] [0, 3] (body Go.Proofs.Try.f101 0) f [(Option.some (Go.Eng.AV.sc (Go.Eng.SV.slc 0 Option.none b1))), (Option.some (Go.Eng.AV.sc (Go.Eng.SV.ptr 1 0 0))), (Option.some (Go.Eng.AV.sc (Go.Eng.SV.int Go.IntKind.i64 n)))] [(Option.some (Go.Eng.HE.mk Bool.true (Go.Eng.HB.rows (Go.Sa.B.u8 l1)))), (Option.some (Go.Eng.HE.mk Bool.false (Go.Eng.HB.exp Option.none [(Go.Eng.SV.slc 0 Option.none b2), (Go.Eng.SV.int Go.IntKind.i64 n1), (Go.Eng.SV.int Go.IntKind.u64 n2), (Go.Eng.SV.int Go.IntKind.i64 n3)])))] KL = l_spec_l01Source_r_0 N b1 l1 b2 n1 n3 (fun n7 => KL Go.Eng.Ex.normal [(Option.some (Go.Eng.AV.sc (Go.Eng.SV.slc 0 Option.none b1))), (Option.some (Go.Eng.AV.sc (Go.Eng.SV.ptr 1 0 0)))] [(Option.some (Go.Eng.HE.mk Bool.true (Go.Eng.HB.rows (Go.Sa.B.u8 l1)))), (Option.some (Go.Eng.HE.mk Bool.false (Go.Eng.HB.exp Option.none [(Go.Eng.SV.slc 0 Option.none b2), (Go.Eng.SV.int Go.IntKind.i64 n1), (Go.Eng.SV.int Go.IntKind.u64 n7), (Go.Eng.SV.int Go.IntKind.i64 n3)])))]) f n n2 := by
  intro f
  induction f with
  | zero => intros; rfl
  | succ f ih =>
    intro n n2
    rw [iterK_succ, se_spec_l01Source_r_0]
    exact (congrArg (fun z0 => s_spec_l01Source_r_0 N b1 l1 b2 n1 n3 n n2 z0 (fun n7 => KL Go.Eng.Ex.normal [(Option.some (Go.Eng.AV.sc (Go.Eng.SV.slc 0 Option.none b1))), (Option.some (Go.Eng.AV.sc (Go.Eng.SV.ptr 1 0 0)))] [(Option.some (Go.Eng.HE.mk Bool.true (Go.Eng.HB.rows (Go.Sa.B.u8 l1)))), (Option.some (Go.Eng.HE.mk Bool.false (Go.Eng.HB.exp Option.none [(Go.Eng.SV.slc 0 Option.none b2), (Go.Eng.SV.int Go.IntKind.i64 n1), (Go.Eng.SV.int Go.IntKind.u64 n7), (Go.Eng.SV.int Go.IntKind.i64 n3)])))])) (funext fun n => funext fun n2 => ih n n2))
def i_spec_l01Source_r_0 (N : Nat) {R : Type} (vs : List (Option AV)) (H : Hp E) (KL : Ex → List (Option AV) → Hp E → Option R) : Option R :=
  match vs, H with
  | [(Option.some (Go.Eng.AV.sc (Go.Eng.SV.slc 0 Option.none b1))), (Option.some (Go.Eng.AV.sc (Go.Eng.SV.ptr 1 0 0))), (Option.some (Go.Eng.AV.sc (Go.Eng.SV.int Go.IntKind.i64 n)))], [(Option.some (Go.Eng.HE.mk Bool.true (Go.Eng.HB.rows (Go.Sa.B.u8 l1)))), (Option.some (Go.Eng.HE.mk Bool.false (Go.Eng.HB.exp Option.none [(Go.Eng.SV.slc 0 Option.none b2), (Go.Eng.SV.int Go.IntKind.i64 n1), (Go.Eng.SV.int Go.IntKind.u64 n2), (Go.Eng.SV.int Go.IntKind.i64 n3)])))] => c_spec_l01Source_r_0 N b1 l1 b2 n1 n3 n n2 (fun n8 => KL Go.Eng.Ex.normal [(Option.some (Go.Eng.AV.sc (Go.Eng.SV.slc 0 Option.none b1))), (Option.some (Go.Eng.AV.sc (Go.Eng.SV.ptr 1 0 0)))] [(Option.some (Go.Eng.HE.mk Bool.true (Go.Eng.HB.rows (Go.Sa.B.u8 l1)))), (Option.some (Go.Eng.HE.mk Bool.false (Go.Eng.HB.exp Option.none [(Go.Eng.SV.slc 0 Option.none b2), (Go.Eng.SV.int Go.IntKind.i64 n1), (Go.Eng.SV.int Go.IntKind.u64 n8), (Go.Eng.SV.int Go.IntKind.i64 n3)])))])
  | _, _ => none
noncomputable def IT_spec_l01Source_r_0 (N : Nat) : Its E := addIt 0 (i_spec_l01Source_r_0 N) (noIt)
theorem IT_spec_l01Source_r_0_ok (N : Nat) : ItOk (IT_spec_l01Source_r_0 N) 1 46 sl_spec_l01Source_r (lsB Go.Proofs.Try.f101 [0]) :=
  addItB_ok (inner := []) ok (O_spec_l01Source_r_ok N) (jn_ok _ _ _) (noIt_ok) rfl (by kernel_rfl) rfl fun vs H KL r h => by
    unfold i_spec_l01Source_r_0 at h
    split at h
    · exact ⟨_, (le_spec_l01Source_r_0 N _ _ _ _ _ KL N _ _).trans h⟩
    · cases h
def g_spec_l01Source_r (N : Nat) {R : Type} (b : Bool) (l : List Int) (k : Int → Int → Option R) : Option R :=
  (c_spec_l01Source_r_0 N b l b (0 : Int) (0 : Int) (0 : Int) (88172645463325252 : Int) fun n4 =>
  (cond (decide (((((List.length l) : Nat) : Int) > (12 : Int))))
  (k n4 (12 : Int))
  (k n4 (((List.length l) : Nat) : Int))))
theorem e_spec_l01Source_r (N : Nat) {R : Type} (b : Bool) (l : List Int) (K : AV → Hp E → Option R) :
    runFnI (E := E) (O_spec_l01Source_r N) (IT_spec_l01Source_r_0 N) sl_spec_l01Source_r J_spec_l01Source_r Go.Proofs.Try.f101 [(Go.Eng.AV.sc (Go.Eng.SV.slc 0 Option.none b))] [(Option.some (Go.Eng.HE.mk Bool.true (Go.Eng.HB.rows (Go.Sa.B.u8 l))))] K =
      g_spec_l01Source_r N b l (fun n5 n6 => K (Go.Eng.AV.sc (Go.Eng.SV.ptr 1 0 0)) [(Option.some (Go.Eng.HE.mk Bool.true (Go.Eng.HB.rows (Go.Sa.B.u8 l)))), (Option.some (Go.Eng.HE.mk Bool.false (Go.Eng.HB.exp Option.none [(Go.Eng.SV.slc 0 Option.none b), (Go.Eng.SV.int Go.IntKind.i64 (0 : Int)), (Go.Eng.SV.int Go.IntKind.u64 n5), (Go.Eng.SV.int Go.IntKind.i64 n6)])))]) := by kernel_rfl
def o_spec_l01Source_r (N : Nat) {R : Type} (args : List AV) (H : Hp E) (K : AV → Hp E → Option R) : Option R :=
  match args, H with
  | [(Go.Eng.AV.sc (Go.Eng.SV.slc 0 Option.none b))], [(Option.some (Go.Eng.HE.mk Bool.true (Go.Eng.HB.rows (Go.Sa.B.u8 l))))] => g_spec_l01Source_r N b l (fun n5 n6 => K (Go.Eng.AV.sc (Go.Eng.SV.ptr 1 0 0)) [(Option.some (Go.Eng.HE.mk Bool.true (Go.Eng.HB.rows (Go.Sa.B.u8 l)))), (Option.some (Go.Eng.HE.mk Bool.false (Go.Eng.HB.exp Option.none [(Go.Eng.SV.slc 0 Option.none b), (Go.Eng.SV.int Go.IntKind.i64 (0 : Int)), (Go.Eng.SV.int Go.IntKind.u64 n5), (Go.Eng.SV.int Go.IntKind.i64 n6)])))])
  | _, _ => none
theorem o_spec_l01Source_r_ok (N : Nat) : FnOk E 101 (o_spec_l01Source_r N) := by
  intro R args H K r h
  unfold o_spec_l01Source_r at h
  dsimp only at h
  split at h
  · exact fnB_ok (ids := [0]) (top := [0]) ok (O_spec_l01Source_r_ok N) (jn_ok _ _ _) Go.Proofs.Try.func101 (by kernel_rfl) (IT := IT_spec_l01Source_r_0 N) (sl := sl_spec_l01Source_r) (J := J_spec_l01Source_r) (K := K) (H := [(Option.some (Go.Eng.HE.mk Bool.true (Go.Eng.HB.rows (Go.Sa.B.u8 _))))]) (IT_spec_l01Source_r_0_ok N) (by kernel_rfl) rfl ((e_spec_l01Source_r N _ _ K).trans h)
  · cases h
/-! ### (*loop.example/g00038/spec.l01Src).n -/
abbrev sl_spec_l01Src_n_Wr : SlotT := []
abbrev J_spec_l01Src_n_Wr : JT := jn [] [] []
noncomputable def O_spec_l01Src_n_Wr (N : Nat) : Orc E := noFn
theorem O_spec_l01Src_n_Wr_ok (N : Nat) : OrcOk (O_spec_l01Src_n_Wr N) := noFn_ok
def g_spec_l01Src_n_Wr (N : Nat) {R : Type} (n : Int) (b : Bool) (n1 : Int) (n2 : Int) (n3 : Int) (l : List Int) (k : Int → Int → Int → Option R) : Option R :=
  (cond (decide ((n ≤ (1 : Int))))
  (k (0 : Int) n1 n2)
  (cond (decide ((n1 < (((List.length l) : Nat) : Int))))
    (cond ((decide (((0 : Int) ≤ n1))) && (decide ((n1 < (((List.length l) : Nat) : Int)))))
      (elemK l (Int.toNat n1) fun x =>
        (cond ((Go.IntKind.wrap Go.IntKind.u64 n) == (0 : Int))
        none
        (k (Go.IntKind.wrap Go.IntKind.i64 (Int.tmod (Go.IntKind.wrap Go.IntKind.u64 ((Go.IntKind.wrap Go.IntKind.u64 x) + (Int.fdiv (Go.IntKind.wrap Go.IntKind.u64 (((BitVec.toNat ((BitVec.ofInt 64 (Go.IntKind.wrap Go.IntKind.u64 (((BitVec.toNat ((BitVec.ofInt 64 (Go.IntKind.wrap Go.IntKind.u64 (((BitVec.toNat ((BitVec.ofInt 64 n2) ^^^ (BitVec.ofInt 64 (Go.IntKind.wrap Go.IntKind.u64 (n2 * (8192 : Int)))))) : Nat) : Int))) ^^^ (BitVec.ofInt 64 (Int.fdiv (Go.IntKind.wrap Go.IntKind.u64 (((BitVec.toNat ((BitVec.ofInt 64 n2) ^^^ (BitVec.ofInt 64 (Go.IntKind.wrap Go.IntKind.u64 (n2 * (8192 : Int)))))) : Nat) : Int)) (128 : Int))))) : Nat) : Int))) ^^^ (BitVec.ofInt 64 (Go.IntKind.wrap Go.IntKind.u64 ((Go.IntKind.wrap Go.IntKind.u64 (((BitVec.toNat ((BitVec.ofInt 64 (Go.IntKind.wrap Go.IntKind.u64 (((BitVec.toNat ((BitVec.ofInt 64 n2) ^^^ (BitVec.ofInt 64 (Go.IntKind.wrap Go.IntKind.u64 (n2 * (8192 : Int)))))) : Nat) : Int))) ^^^ (BitVec.ofInt 64 (Int.fdiv (Go.IntKind.wrap Go.IntKind.u64 (((BitVec.toNat ((BitVec.ofInt 64 n2) ^^^ (BitVec.ofInt 64 (Go.IntKind.wrap Go.IntKind.u64 (n2 * (8192 : Int)))))) : Nat) : Int)) (128 : Int))))) : Nat) : Int)) * (131072 : Int)))))) : Nat) : Int)) (1048576 : Int)))) (Go.IntKind.wrap Go.IntKind.u64 n))) (Go.IntKind.wrap Go.IntKind.i64 (n1 + (1 : Int))) (Go.IntKind.wrap Go.IntKind.u64 (((BitVec.toNat ((BitVec.ofInt 64 (Go.IntKind.wrap Go.IntKind.u64 (((BitVec.toNat ((BitVec.ofInt 64 (Go.IntKind.wrap Go.IntKind.u64 (((BitVec.toNat ((BitVec.ofInt 64 n2) ^^^ (BitVec.ofInt 64 (Go.IntKind.wrap Go.IntKind.u64 (n2 * (8192 : Int)))))) : Nat) : Int))) ^^^ (BitVec.ofInt 64 (Int.fdiv (Go.IntKind.wrap Go.IntKind.u64 (((BitVec.toNat ((BitVec.ofInt 64 n2) ^^^ (BitVec.ofInt 64 (Go.IntKind.wrap Go.IntKind.u64 (n2 * (8192 : Int)))))) : Nat) : Int)) (128 : Int))))) : Nat) : Int))) ^^^ (BitVec.ofInt 64 (Go.IntKind.wrap Go.IntKind.u64 ((Go.IntKind.wrap Go.IntKind.u64 (((BitVec.toNat ((BitVec.ofInt 64 (Go.IntKind.wrap Go.IntKind.u64 (((BitVec.toNat ((BitVec.ofInt 64 n2) ^^^ (BitVec.ofInt 64 (Go.IntKind.wrap Go.IntKind.u64 (n2 * (8192 : Int)))))) : Nat) : Int))) ^^^ (BitVec.ofInt 64 (Int.fdiv (Go.IntKind.wrap Go.IntKind.u64 (((BitVec.toNat ((BitVec.ofInt 64 n2) ^^^ (BitVec.ofInt 64 (Go.IntKind.wrap Go.IntKind.u64 (n2 * (8192 : Int)))))) : Nat) : Int)) (128 : Int))))) : Nat) : Int)) * (131072 : Int)))))) : Nat) : Int)))))
      none)
    (cond ((Go.IntKind.wrap Go.IntKind.u64 n) == (0 : Int))
      none
      (k (Go.IntKind.wrap Go.IntKind.i64 (Int.tmod (Go.IntKind.wrap Go.IntKind.u64 ((0 : Int) + (Int.fdiv (Go.IntKind.wrap Go.IntKind.u64 (((BitVec.toNat ((BitVec.ofInt 64 (Go.IntKind.wrap Go.IntKind.u64 (((BitVec.toNat ((BitVec.ofInt 64 (Go.IntKind.wrap Go.IntKind.u64 (((BitVec.toNat ((BitVec.ofInt 64 n2) ^^^ (BitVec.ofInt 64 (Go.IntKind.wrap Go.IntKind.u64 (n2 * (8192 : Int)))))) : Nat) : Int))) ^^^ (BitVec.ofInt 64 (Int.fdiv (Go.IntKind.wrap Go.IntKind.u64 (((BitVec.toNat ((BitVec.ofInt 64 n2) ^^^ (BitVec.ofInt 64 (Go.IntKind.wrap Go.IntKind.u64 (n2 * (8192 : Int)))))) : Nat) : Int)) (128 : Int))))) : Nat) : Int))) ^^^ (BitVec.ofInt 64 (Go.IntKind.wrap Go.IntKind.u64 ((Go.IntKind.wrap Go.IntKind.u64 (((BitVec.toNat ((BitVec.ofInt 64 (Go.IntKind.wrap Go.IntKind.u64 (((BitVec.toNat ((BitVec.ofInt 64 n2) ^^^ (BitVec.ofInt 64 (Go.IntKind.wrap Go.IntKind.u64 (n2 * (8192 : Int)))))) : Nat) : Int))) ^^^ (BitVec.ofInt 64 (Int.fdiv (Go.IntKind.wrap Go.IntKind.u64 (((BitVec.toNat ((BitVec.ofInt 64 n2) ^^^ (BitVec.ofInt 64 (Go.IntKind.wrap Go.IntKind.u64 (n2 * (8192 : Int)))))) : Nat) : Int)) (128 : Int))))) : Nat) : Int)) * (131072 : Int)))))) : Nat) : Int)) (1048576 : Int)))) (Go.IntKind.wrap Go.IntKind.u64 n))) n1 (Go.IntKind.wrap Go.IntKind.u64 (((BitVec.toNat ((BitVec.ofInt 64 (Go.IntKind.wrap Go.IntKind.u64 (((BitVec.toNat ((BitVec.ofInt 64 (Go.IntKind.wrap Go.IntKind.u64 (((BitVec.toNat ((BitVec.ofInt 64 n2) ^^^ (BitVec.ofInt 64 (Go.IntKind.wrap Go.IntKind.u64 (n2 * (8192 : Int)))))) : Nat) : Int))) ^^^ (BitVec.ofInt 64 (Int.fdiv (Go.IntKind.wrap Go.IntKind.u64 (((BitVec.toNat ((BitVec.ofInt 64 n2) ^^^ (BitVec.ofInt 64 (Go.IntKind.wrap Go.IntKind.u64 (n2 * (8192 : Int)))))) : Nat) : Int)) (128 : Int))))) : Nat) : Int))) ^^^ (BitVec.ofInt 64 (Go.IntKind.wrap Go.IntKind.u64 ((Go.IntKind.wrap Go.IntKind.u64 (((BitVec.toNat ((BitVec.ofInt 64 (Go.IntKind.wrap Go.IntKind.u64 (((BitVec.toNat ((BitVec.ofInt 64 n2) ^^^ (BitVec.ofInt 64 (Go.IntKind.wrap Go.IntKind.u64 (n2 * (8192 : Int)))))) : Nat) : Int))) ^^^ (BitVec.ofInt 64 (Int.fdiv (Go.IntKind.wrap Go.IntKind.u64 (((BitVec.toNat ((BitVec.ofInt 64 n2) ^^^ (BitVec.ofInt 64 (Go.IntKind.wrap Go.IntKind.u64 (n2 * (8192 : Int)))))) : Nat) : Int)) (128 : Int))))) : Nat) : Int)) * (131072 : Int)))))) : Nat) : Int))))))
theorem e_spec_l01Src_n_Wr (N : Nat) {R : Type} (n : Int) (b : Bool) (n1 : Int) (n2 : Int) (n3 : Int) (l : List Int) (K : AV → Hp E → Option R) :
    runFnI (E := E) (O_spec_l01Src_n_Wr N) (noIt) sl_spec_l01Src_n_Wr J_spec_l01Src_n_Wr Go.Proofs.Try.f103 [(Go.Eng.AV.sc (Go.Eng.SV.ptr 0 0 0)), (Go.Eng.AV.sc (Go.Eng.SV.int Go.IntKind.i64 n))] [(Option.some (Go.Eng.HE.mk Bool.false (Go.Eng.HB.exp Option.none [(Go.Eng.SV.slc 1 Option.none b), (Go.Eng.SV.int Go.IntKind.i64 n1), (Go.Eng.SV.int Go.IntKind.u64 n2), (Go.Eng.SV.int Go.IntKind.i64 n3)]))), (Option.some (Go.Eng.HE.mk Bool.true (Go.Eng.HB.rows (Go.Sa.B.u8 l))))] K =
      g_spec_l01Src_n_Wr N n b n1 n2 n3 l (fun n4 n5 n6 => K (Go.Eng.AV.sc (Go.Eng.SV.int Go.IntKind.i64 n4)) [(Option.some (Go.Eng.HE.mk Bool.false (Go.Eng.HB.exp Option.none [(Go.Eng.SV.slc 1 Option.none b), (Go.Eng.SV.int Go.IntKind.i64 n5), (Go.Eng.SV.int Go.IntKind.u64 n6), (Go.Eng.SV.int Go.IntKind.i64 n3)]))), (Option.some (Go.Eng.HE.mk Bool.true (Go.Eng.HB.rows (Go.Sa.B.u8 l))))]) := by kernel_rfl
def o_spec_l01Src_n_Wr (N : Nat) {R : Type} (args : List AV) (H : Hp E) (K : AV → Hp E → Option R) : Option R :=
  match args, H with
  | [(Go.Eng.AV.sc (Go.Eng.SV.ptr 0 0 0)), (Go.Eng.AV.sc (Go.Eng.SV.int Go.IntKind.i64 n))], [(Option.some (Go.Eng.HE.mk Bool.false (Go.Eng.HB.exp Option.none [(Go.Eng.SV.slc 1 Option.none b), (Go.Eng.SV.int Go.IntKind.i64 n1), (Go.Eng.SV.int Go.IntKind.u64 n2), (Go.Eng.SV.int Go.IntKind.i64 n3)]))), (Option.some (Go.Eng.HE.mk Bool.true (Go.Eng.HB.rows (Go.Sa.B.u8 l))))] => g_spec_l01Src_n_Wr N n b n1 n2 n3 l (fun n4 n5 n6 => K (Go.Eng.AV.sc (Go.Eng.SV.int Go.IntKind.i64 n4)) [(Option.some (Go.Eng.HE.mk Bool.false (Go.Eng.HB.exp Option.none [(Go.Eng.SV.slc 1 Option.none b), (Go.Eng.SV.int Go.IntKind.i64 n5), (Go.Eng.SV.int Go.IntKind.u64 n6), (Go.Eng.SV.int Go.IntKind.i64 n3)]))), (Option.some (Go.Eng.HE.mk Bool.true (Go.Eng.HB.rows (Go.Sa.B.u8 l))))])
  | _, _ => none
theorem o_spec_l01Src_n_Wr_ok (N : Nat) : FnOk E 103 (o_spec_l01Src_n_Wr N) := by
  intro R args H K r h
  unfold o_spec_l01Src_n_Wr at h
  dsimp only at h
  split at h
  · exact fnB_ok (ids := []) (top := []) ok (O_spec_l01Src_n_Wr_ok N) (jn_ok _ _ _) Go.Proofs.Try.func103 (by kernel_rfl) (IT := noIt) (sl := sl_spec_l01Src_n_Wr) (J := J_spec_l01Src_n_Wr) (K := K) (H := [(Option.some (Go.Eng.HE.mk Bool.false (Go.Eng.HB.exp Option.none [(Go.Eng.SV.slc 1 Option.none _), (Go.Eng.SV.int Go.IntKind.i64 _), (Go.Eng.SV.int Go.IntKind.u64 _), (Go.Eng.SV.int Go.IntKind.i64 _)]))), (Option.some (Go.Eng.HE.mk Bool.true (Go.Eng.HB.rows (Go.Sa.B.u8 _))))]) (noIt_ok) (by kernel_rfl) rfl ((e_spec_l01Src_n_Wr N _ _ _ _ _ _ K).trans h)
  · cases h
/-! ### (*loop.example/g00038/spec.l01Src).frames -/
abbrev sl_spec_l01Src_frames_Wr : SlotT := [(0, ([0, 5, 6], [5]))]
abbrev J_spec_l01Src_frames_Wr : JT := jn [] [] []
noncomputable def O_spec_l01Src_frames_Wr (N : Nat) : Orc E := addFn 103 (o_spec_l01Src_n_Wr N) (noFn)
theorem O_spec_l01Src_frames_Wr_ok (N : Nat) : OrcOk (O_spec_l01Src_frames_Wr N) := addFn_ok (o_spec_l01Src_n_Wr_ok N) (noFn_ok)
def s_spec_l01Src_frames_Wr_0 (N : Nat) {R : Type} (b1 : Bool) (b2 : Bool) (n10 : Int) (l1 : List Int) (n7 : Int) (n8 : Int) (n9 : Int) (l2 : List Int) (ag : Int → Int → Int → (List Int) → Option R)  (kN : Int → Int → (List Int) → Option R) : Option R :=
  (cond (decide ((n7 > (0 : Int))))
  (g_spec_l01Src_n_Wr N (((List.length l2) : Nat) : Int) b2 n8 n9 n10 l1 fun n11 n12 n13 =>
    (g_spec_l01Src_n_Wr N (256 : Int) b2 n12 n13 n10 l1 fun n14 n15 n16 =>
    (cond ((decide (((0 : Int) ≤ n11))) && (decide ((n11 < (((List.length l2) : Nat) : Int)))))
    (elemK l2 (Int.toNat n11) fun x =>
      (cond (Nat.blt (Int.toNat n11) (List.length l2))
      (ag (Go.IntKind.wrap Go.IntKind.i64 (n7 - (1 : Int))) n15 n16 (Go.Eng.nset l2 (Int.toNat n11) (Go.IntKind.wrap Go.IntKind.u8 n14)))
      none))
    none)))
  (kN n8 n9 l2))
def l_spec_l01Src_frames_Wr_0 (N : Nat) {R : Type} (b1 : Bool) (b2 : Bool) (n10 : Int) (l1 : List Int) (kN : Int → Int → (List Int) → Option R) : Nat → Int → Int → Int → (List Int) → Option R
  | 0, _, _, _, _ => none
  | f + 1, n7, n8, n9, l2 => s_spec_l01Src_frames_Wr_0 N b1 b2 n10 l1 n7 n8 n9 l2 (fun n7 n8 n9 l2 => l_spec_l01Src_frames_Wr_0 N b1 b2 n10 l1 kN f n7 n8 n9 l2)  kN
def c_spec_l01Src_frames_Wr_0 (N : Nat) {R : Type} (b1 : Bool) (b2 : Bool) (n10 : Int) (l1 : List Int) (n7 : Int) (n8 : Int) (n9 : Int) (l2 : List Int) (kN : Int → Int → (List Int) → Option R) : Option R := l_spec_l01Src_frames_Wr_0 N b1 b2 n10 l1 kN N n7 n8 n9 l2
theorem se_spec_l01Src_frames_Wr_0 (N : Nat) {R : Type} (b1 : Bool) (b2 : Bool) (n10 : Int) (l1 : List Int) (n7 : Int) (n8 : Int) (n9 : Int) (l2 : List Int) (AG : List (Option AV) → Hp E → Option R) (KL : Ex → List (Option AV) → Hp E → Option R) :
    iterStep (E := E) (O_spec_l01Src_frames_Wr N) (fun {R} => LI (noIt) 2 27 sl_spec_l01Src_frames_Wr (R := R)) J_spec_l01Src_frames_Wr 2 27 0 [0, 5, 6] [5] (body Go.Proofs.Try.f102 0) AG KL [(Option.some (Go.Eng.AV.sc (Go.Eng.SV.ptr 0 0 0))), (Option.some (Go.Eng.AV.sc (Go.Eng.SV.slc 2 Option.none b1))), (Option.some (Go.Eng.AV.sc (Go.Eng.SV.int Go.IntKind.i64 n7)))] [(Option.some (Go.Eng.HE.mk Bool.false (Go.Eng.HB.exp Option.none [(Go.Eng.SV.slc 1 Option.none b2), (Go.Eng.SV.int Go.IntKind.i64 n8), (Go.Eng.SV.int Go.IntKind.u64 n9), (Go.Eng.SV.int Go.IntKind.i64 n10)]))), (Option.some (Go.Eng.HE.mk Bool.true (Go.Eng.HB.rows (Go.Sa.B.u8 l1)))), (Option.some (Go.Eng.HE.mk Bool.false (Go.Eng.HB.rows (Go.Sa.B.u8 l2))))] =
      s_spec_l01Src_frames_Wr_0 N b1 b2 n10 l1 n7 n8 n9 l2 (fun n7 n8 n9 l2 => AG [(Option.some (Go.Eng.AV.sc (Go.Eng.SV.ptr 0 0 0))), (Option.some (Go.Eng.AV.sc (Go.Eng.SV.slc 2 Option.none b1))), (Option.some (Go.Eng.AV.sc (Go.Eng.SV.int Go.IntKind.i64 n7)))] [(Option.some (Go.Eng.HE.mk Bool.false (Go.Eng.HB.exp Option.none [(Go.Eng.SV.slc 1 Option.none b2), (Go.Eng.SV.int Go.IntKind.i64 n8), (Go.Eng.SV.int Go.IntKind.u64 n9), (Go.Eng.SV.int Go.IntKind.i64 n10)]))), (Option.some (Go.Eng.HE.mk Bool.true (Go.Eng.HB.rows (Go.Sa.B.u8 l1)))), (Option.some (Go.Eng.HE.mk Bool.false (Go.Eng.HB.rows (Go.Sa.B.u8 l2))))])  (fun n21 n22 l4 => KL Go.Eng.Ex.normal [(Option.some (Go.Eng.AV.sc (Go.Eng.SV.slc 2 Option.none b1)))] [(Option.some (Go.Eng.HE.mk Bool.false (Go.Eng.HB.exp Option.none [(Go.Eng.SV.slc 1 Option.none b2), (Go.Eng.SV.int Go.IntKind.i64 n21), (Go.Eng.SV.int Go.IntKind.u64 n22), (Go.Eng.SV.int Go.IntKind.i64 n10)]))), (Option.some (Go.Eng.HE.mk Bool.true (Go.Eng.HB.rows (Go.Sa.B.u8 l1)))), (Option.some (Go.Eng.HE.mk Bool.false (Go.Eng.HB.rows (Go.Sa.B.u8 l4))))]) := by kernel_rfl
theorem le_spec_l01Src_frames_Wr_0 (N : Nat) {R : Type} (b1 : Bool) (b2 : Bool) (n10 : Int) (l1 : List Int) (KL : Ex → List (Option AV) → Hp E → Option R) : ∀ (f : Nat), ∀ (n7 : Int) (n8 : Int) (n9 : Int) (l2 : List Int), iterK (E := E) (O_spec_l01Src_frames_Wr N) (fun {R} => LI (noIt) 2 27 sl_spec_l01Src_frames_Wr (R := R)) J_spec_l01Src_frames_Wr 2 27 0 [0, 5, 6] [5] (body Go.Proofs.Try.f102 0) f [(Option.some (Go.Eng.AV.sc (Go.Eng.SV.ptr 0 0 0))), (Option.some (Go.Eng.AV.sc (Go.Eng.SV.slc 2 Option.none b1))), (Option.some (Go.Eng.AV.sc (Go.Eng.SV.int Go.IntKind.i64 n7)))] [(Option.some (Go.Eng.HE.mk Bool.false (Go.Eng.HB.exp Option.none [(Go.Eng.SV.slc 1 Option.none b2), (Go.Eng.SV.int Go.IntKind.i64 n8), (Go.Eng.SV.int Go.IntKind.u64 n9), (Go.Eng.SV.int Go.IntKind.i64 n10)]))), (Option.some (Go.Eng.HE.mk Bool.true (Go.Eng.HB.rows (Go.Sa.B.u8 l1)))), (Option.some (Go.Eng.HE.mk Bool.false (Go.Eng.HB.rows (Go.Sa.B.u8 l2))))] KL = l_spec_l01Src_frames_Wr_0 N b1 b2 n10 l1 (fun n21 n22 l4 => KL Go.Eng.Ex.normal [(Option.some (Go.Eng.AV.sc (Go.Eng.SV.slc 2 Option.none b1)))] [(Option.some (Go.Eng.HE.mk Bool.false (Go.Eng.HB.exp Option.none [(Go.Eng.SV.slc 1 Option.none b2), (Go.Eng.SV.int Go.IntKind.i64 n21), (Go.Eng.SV.int Go.IntKind.u64 n22), (Go.Eng.SV.int Go.IntKind.i64 n10)]))), (Option.some (Go.Eng.HE.mk Bool.true (Go.Eng.HB.rows (Go.Sa.B.u8 l1)))), (Option.some (Go.Eng.HE.mk Bool.false (Go.Eng.HB.rows (Go.Sa.B.u8 l4))))]) f n7 n8 n9 l2 := by
  intro f
  induction f with
  | zero => intros; rfl
  | succ f ih =>
    intro n7 n8 n9 l2
    rw [iterK_succ, se_spec_l01Src_frames_Wr_0]
    exact (congrArg (fun z0 => s_spec_l01Src_frames_Wr_0 N b1 b2 n10 l1 n7 n8 n9 l2 z0 (fun n21 n22 l4 => KL Go.Eng.Ex.normal [(Option.some (Go.Eng.AV.sc (Go.Eng.SV.slc 2 Option.none b1)))] [(Option.some (Go.Eng.HE.mk Bool.false (Go.Eng.HB.exp Option.none [(Go.Eng.SV.slc 1 Option.none b2), (Go.Eng.SV.int Go.IntKind.i64 n21), (Go.Eng.SV.int Go.IntKind.u64 n22), (Go.Eng.SV.int Go.IntKind.i64 n10)]))), (Option.some (Go.Eng.HE.mk Bool.true (Go.Eng.HB.rows (Go.Sa.B.u8 l1)))), (Option.some (Go.Eng.HE.mk Bool.false (Go.Eng.HB.rows (Go.Sa.B.u8 l4))))])) (funext fun n7 => funext fun n8 => funext fun n9 => funext fun l2 => ih n7 n8 n9 l2))
def i_spec_l01Src_frames_Wr_0 (N : Nat) {R : Type} (vs : List (Option AV)) (H : Hp E) (KL : Ex → List (Option AV) → Hp E → Option R) : Option R :=
  match vs, H with
  | [(Option.some (Go.Eng.AV.sc (Go.Eng.SV.ptr 0 0 0))), (Option.some (Go.Eng.AV.sc (Go.Eng.SV.slc 2 Option.none b1))), (Option.some (Go.Eng.AV.sc (Go.Eng.SV.int Go.IntKind.i64 n7)))], [(Option.some (Go.Eng.HE.mk Bool.false (Go.Eng.HB.exp Option.none [(Go.Eng.SV.slc 1 Option.none b2), (Go.Eng.SV.int Go.IntKind.i64 n8), (Go.Eng.SV.int Go.IntKind.u64 n9), (Go.Eng.SV.int Go.IntKind.i64 n10)]))), (Option.some (Go.Eng.HE.mk Bool.true (Go.Eng.HB.rows (Go.Sa.B.u8 l1)))), (Option.some (Go.Eng.HE.mk Bool.false (Go.Eng.HB.rows (Go.Sa.B.u8 l2))))] => c_spec_l01Src_frames_Wr_0 N b1 b2 n10 l1 n7 n8 n9 l2 (fun n23 n24 l5 => KL Go.Eng.Ex.normal [(Option.some (Go.Eng.AV.sc (Go.Eng.SV.slc 2 Option.none b1)))] [(Option.some (Go.Eng.HE.mk Bool.false (Go.Eng.HB.exp Option.none [(Go.Eng.SV.slc 1 Option.none b2), (Go.Eng.SV.int Go.IntKind.i64 n23), (Go.Eng.SV.int Go.IntKind.u64 n24), (Go.Eng.SV.int Go.IntKind.i64 n10)]))), (Option.some (Go.Eng.HE.mk Bool.true (Go.Eng.HB.rows (Go.Sa.B.u8 l1)))), (Option.some (Go.Eng.HE.mk Bool.false (Go.Eng.HB.rows (Go.Sa.B.u8 l5))))])
  | _, _ => none
noncomputable def IT_spec_l01Src_frames_Wr_0 (N : Nat) : Its E := addIt 0 (i_spec_l01Src_frames_Wr_0 N) (noIt)
theorem IT_spec_l01Src_frames_Wr_0_ok (N : Nat) : ItOk (IT_spec_l01Src_frames_Wr_0 N) 2 27 sl_spec_l01Src_frames_Wr (lsB Go.Proofs.Try.f102 [0]) :=
  addItB_ok (inner := []) ok (O_spec_l01Src_frames_Wr_ok N) (jn_ok _ _ _) (noIt_ok) rfl (by kernel_rfl) rfl fun vs H KL r h => by
    unfold i_spec_l01Src_frames_Wr_0 at h
    split at h
    · exact ⟨_, (le_spec_l01Src_frames_Wr_0 N _ _ _ _ KL N _ _ _ _).trans h⟩
    · cases h
def g_spec_l01Src_frames_Wr (N : Nat) {R : Type} (n : Int) (b : Bool) (n1 : Int) (n2 : Int) (n3 : Int) (l : List Int) (k : ByteArray → Int → Int → Option R) : Option R :=
  (cond (((decide (((Go.IntKind.wrap Go.IntKind.i64 (n * (256 : Int))) = (Go.IntKind.wrap Go.IntKind.i64 (n * (256 : Int)))))) && (decide (((0 : Int) ≤ (Go.IntKind.wrap Go.IntKind.i64 (n * (256 : Int))))))) && (Go.Eng.roomOk (Int.toNat (Go.IntKind.wrap Go.IntKind.i64 (n * (256 : Int)))) 1))
  (g_spec_l01Src_n_Wr N (6 : Int) b n1 n2 n3 l fun n4 n5 n6 =>
    (c_spec_l01Src_frames_Wr_0 N Bool.false b n3 l n4 n5 n6 (List.replicate (Int.toNat (Go.IntKind.wrap Go.IntKind.i64 (n * (256 : Int)))) (0 : Int)) fun n17 n18 l3 =>
    (cond (Nat.ble (0 + (List.length l3)) (List.length l3))
    (k (Go.Eng.toBytes (Go.Eng.seg l3 0 (List.length l3))) n17 n18)
    none)))
  none)
theorem e_spec_l01Src_frames_Wr (N : Nat) {R : Type} (n : Int) (b : Bool) (n1 : Int) (n2 : Int) (n3 : Int) (l : List Int) (K : AV → Hp E → Option R) :
    runFnI (E := E) (O_spec_l01Src_frames_Wr N) (IT_spec_l01Src_frames_Wr_0 N) sl_spec_l01Src_frames_Wr J_spec_l01Src_frames_Wr Go.Proofs.Try.f102 [(Go.Eng.AV.sc (Go.Eng.SV.ptr 0 0 0)), (Go.Eng.AV.sc (Go.Eng.SV.int Go.IntKind.i64 n))] [(Option.some (Go.Eng.HE.mk Bool.false (Go.Eng.HB.exp Option.none [(Go.Eng.SV.slc 1 Option.none b), (Go.Eng.SV.int Go.IntKind.i64 n1), (Go.Eng.SV.int Go.IntKind.u64 n2), (Go.Eng.SV.int Go.IntKind.i64 n3)]))), (Option.some (Go.Eng.HE.mk Bool.true (Go.Eng.HB.rows (Go.Sa.B.u8 l))))] K =
      g_spec_l01Src_frames_Wr N n b n1 n2 n3 l (fun s n19 n20 => K (Go.Eng.AV.sc (Go.Eng.SV.str s)) [(Option.some (Go.Eng.HE.mk Bool.false (Go.Eng.HB.exp Option.none [(Go.Eng.SV.slc 1 Option.none b), (Go.Eng.SV.int Go.IntKind.i64 n19), (Go.Eng.SV.int Go.IntKind.u64 n20), (Go.Eng.SV.int Go.IntKind.i64 n3)]))), (Option.some (Go.Eng.HE.mk Bool.true (Go.Eng.HB.rows (Go.Sa.B.u8 l))))]) := by kernel_rfl
def o_spec_l01Src_frames_Wr (N : Nat) {R : Type} (args : List AV) (H : Hp E) (K : AV → Hp E → Option R) : Option R :=
  match args, H with
  | [(Go.Eng.AV.sc (Go.Eng.SV.ptr 0 0 0)), (Go.Eng.AV.sc (Go.Eng.SV.int Go.IntKind.i64 n))], [(Option.some (Go.Eng.HE.mk Bool.false (Go.Eng.HB.exp Option.none [(Go.Eng.SV.slc 1 Option.none b), (Go.Eng.SV.int Go.IntKind.i64 n1), (Go.Eng.SV.int Go.IntKind.u64 n2), (Go.Eng.SV.int Go.IntKind.i64 n3)]))), (Option.some (Go.Eng.HE.mk Bool.true (Go.Eng.HB.rows (Go.Sa.B.u8 l))))] => g_spec_l01Src_frames_Wr N n b n1 n2 n3 l (fun s n19 n20 => K (Go.Eng.AV.sc (Go.Eng.SV.str s)) [(Option.some (Go.Eng.HE.mk Bool.false (Go.Eng.HB.exp Option.none [(Go.Eng.SV.slc 1 Option.none b), (Go.Eng.SV.int Go.IntKind.i64 n19), (Go.Eng.SV.int Go.IntKind.u64 n20), (Go.Eng.SV.int Go.IntKind.i64 n3)]))), (Option.some (Go.Eng.HE.mk Bool.true (Go.Eng.HB.rows (Go.Sa.B.u8 l))))])
  | _, _ => none
theorem o_spec_l01Src_frames_Wr_ok (N : Nat) : FnOk E 102 (o_spec_l01Src_frames_Wr N) := by
  intro R args H K r h
  unfold o_spec_l01Src_frames_Wr at h
  dsimp only at h
  split at h
  · exact fnB_ok (ids := [0]) (top := [0]) ok (O_spec_l01Src_frames_Wr_ok N) (jn_ok _ _ _) Go.Proofs.Try.func102 (by kernel_rfl) (IT := IT_spec_l01Src_frames_Wr_0 N) (sl := sl_spec_l01Src_frames_Wr) (J := J_spec_l01Src_frames_Wr) (K := K) (H := [(Option.some (Go.Eng.HE.mk Bool.false (Go.Eng.HB.exp Option.none [(Go.Eng.SV.slc 1 Option.none _), (Go.Eng.SV.int Go.IntKind.i64 _), (Go.Eng.SV.int Go.IntKind.u64 _), (Go.Eng.SV.int Go.IntKind.i64 _)]))), (Option.some (Go.Eng.HE.mk Bool.true (Go.Eng.HB.rows (Go.Sa.B.u8 _))))]) (IT_spec_l01Src_frames_Wr_0_ok N) (by kernel_rfl) rfl ((e_spec_l01Src_frames_Wr N _ _ _ _ _ _ K).trans h)
  · cases h
/-! ### (*loop.example/g00038/spec.l01Src).bytes -/
abbrev sl_spec_l01Src_bytes_Wr : SlotT := [(0, ([0, 1, 5, 6], [5]))]
abbrev J_spec_l01Src_bytes_Wr : JT := jn [] [] []
noncomputable def O_spec_l01Src_bytes_Wr (N : Nat) : Orc E := addFn 103 (o_spec_l01Src_n_Wr N) (noFn)
theorem O_spec_l01Src_bytes_Wr_ok (N : Nat) : OrcOk (O_spec_l01Src_bytes_Wr N) := addFn_ok (o_spec_l01Src_n_Wr_ok N) (noFn_ok)
def s_spec_l01Src_bytes_Wr_0 (N : Nat) {R : Type} (n4 : Int) (b2 : Bool) (n8 : Int) (l1 : List Int) (b1 : Bool) (n5 : Int) (n6 : Int) (n7 : Int) (l2 : List Int) (ag : Bool → Int → Int → Int → (List Int) → Option R)  (kN : Bool → Int → Int → (List Int) → Option R) : Option R :=
  (cond (decide ((n5 < n4)))
  (g_spec_l01Src_n_Wr N (256 : Int) b2 n6 n7 n8 l1 fun n9 n10 n11 =>
    (cond (Go.Eng.roomOk ((List.length l2) + (List.length [(Go.IntKind.wrap Go.IntKind.u8 n9)])) 1)
    (ag (cond (Nat.beq (List.length [(Go.IntKind.wrap Go.IntKind.u8 n9)]) 0) b1 Bool.false) (Go.IntKind.wrap Go.IntKind.i64 (n5 + (1 : Int))) n10 n11 (l2 ++ [(Go.IntKind.wrap Go.IntKind.u8 n9)]))
    none))
  (kN b1 n6 n7 l2))
def l_spec_l01Src_bytes_Wr_0 (N : Nat) {R : Type} (n4 : Int) (b2 : Bool) (n8 : Int) (l1 : List Int) (kN : Bool → Int → Int → (List Int) → Option R) : Nat → Bool → Int → Int → Int → (List Int) → Option R
  | 0, _, _, _, _, _ => none
  | f + 1, b1, n5, n6, n7, l2 => s_spec_l01Src_bytes_Wr_0 N n4 b2 n8 l1 b1 n5 n6 n7 l2 (fun b1 n5 n6 n7 l2 => l_spec_l01Src_bytes_Wr_0 N n4 b2 n8 l1 kN f b1 n5 n6 n7 l2)  kN
def c_spec_l01Src_bytes_Wr_0 (N : Nat) {R : Type} (n4 : Int) (b2 : Bool) (n8 : Int) (l1 : List Int) (b1 : Bool) (n5 : Int) (n6 : Int) (n7 : Int) (l2 : List Int) (kN : Bool → Int → Int → (List Int) → Option R) : Option R := l_spec_l01Src_bytes_Wr_0 N n4 b2 n8 l1 kN N b1 n5 n6 n7 l2
theorem se_spec_l01Src_bytes_Wr_0 (N : Nat) {R : Type} (n4 : Int) (b2 : Bool) (n8 : Int) (l1 : List Int) (b1 : Bool) (n5 : Int) (n6 : Int) (n7 : Int) (l2 : List Int) (AG : List (Option AV) → Hp E → Option R) (KL : Ex → List (Option AV) → Hp E → Option R) :
    iterStep (E := E) (O_spec_l01Src_bytes_Wr N) (fun {R} => LI (noIt) 2 21 sl_spec_l01Src_bytes_Wr (R := R)) J_spec_l01Src_bytes_Wr 2 21 0 [0, 1, 5, 6] [5] (body Go.Proofs.Try.f162 0) AG KL [(Option.some (Go.Eng.AV.sc (Go.Eng.SV.ptr 0 0 0))), (Option.some (Go.Eng.AV.sc (Go.Eng.SV.int Go.IntKind.i64 n4))), (Option.some (Go.Eng.AV.sc (Go.Eng.SV.slc 2 Option.none b1))), (Option.some (Go.Eng.AV.sc (Go.Eng.SV.int Go.IntKind.i64 n5)))] [(Option.some (Go.Eng.HE.mk Bool.false (Go.Eng.HB.exp Option.none [(Go.Eng.SV.slc 1 Option.none b2), (Go.Eng.SV.int Go.IntKind.i64 n6), (Go.Eng.SV.int Go.IntKind.u64 n7), (Go.Eng.SV.int Go.IntKind.i64 n8)]))), (Option.some (Go.Eng.HE.mk Bool.true (Go.Eng.HB.rows (Go.Sa.B.u8 l1)))), (Option.some (Go.Eng.HE.mk Bool.false (Go.Eng.HB.rows (Go.Sa.B.u8 l2))))] =
      s_spec_l01Src_bytes_Wr_0 N n4 b2 n8 l1 b1 n5 n6 n7 l2 (fun b1 n5 n6 n7 l2 => AG [(Option.some (Go.Eng.AV.sc (Go.Eng.SV.ptr 0 0 0))), (Option.some (Go.Eng.AV.sc (Go.Eng.SV.int Go.IntKind.i64 n4))), (Option.some (Go.Eng.AV.sc (Go.Eng.SV.slc 2 Option.none b1))), (Option.some (Go.Eng.AV.sc (Go.Eng.SV.int Go.IntKind.i64 n5)))] [(Option.some (Go.Eng.HE.mk Bool.false (Go.Eng.HB.exp Option.none [(Go.Eng.SV.slc 1 Option.none b2), (Go.Eng.SV.int Go.IntKind.i64 n6), (Go.Eng.SV.int Go.IntKind.u64 n7), (Go.Eng.SV.int Go.IntKind.i64 n8)]))), (Option.some (Go.Eng.HE.mk Bool.true (Go.Eng.HB.rows (Go.Sa.B.u8 l1)))), (Option.some (Go.Eng.HE.mk Bool.false (Go.Eng.HB.rows (Go.Sa.B.u8 l2))))])  (fun b4 n16 n17 l4 => KL Go.Eng.Ex.normal [(Option.some (Go.Eng.AV.sc (Go.Eng.SV.slc 2 Option.none b4)))] [(Option.some (Go.Eng.HE.mk Bool.false (Go.Eng.HB.exp Option.none [(Go.Eng.SV.slc 1 Option.none b2), (Go.Eng.SV.int Go.IntKind.i64 n16), (Go.Eng.SV.int Go.IntKind.u64 n17), (Go.Eng.SV.int Go.IntKind.i64 n8)]))), (Option.some (Go.Eng.HE.mk Bool.true (Go.Eng.HB.rows (Go.Sa.B.u8 l1)))), (Option.some (Go.Eng.HE.mk Bool.false (Go.Eng.HB.rows (Go.Sa.B.u8 l4))))]) := by kernel_rfl
theorem le_spec_l01Src_bytes_Wr_0 (N : Nat) {R : Type} (n4 : Int) (b2 : Bool) (n8 : Int) (l1 : List Int) (KL : Ex → List (Option AV) → Hp E → Option R) : ∀ (f : Nat), ∀ (b1 : Bool) (n5 : Int) (n6 : Int) (n7 : Int) (l2 : List Int), iterK (E := E) (O_spec_l01Src_bytes_Wr N) (fun {R} => LI (noIt) 2 21 sl_spec_l01Src_bytes_Wr (R := R)) J_spec_l01Src_bytes_Wr 2 21 0 [0, 1, 5, 6] [5] (body Go.Proofs.Try.f162 0) f [(Option.some (Go.Eng.AV.sc (Go.Eng.SV.ptr 0 0 0))), (Option.some (Go.Eng.AV.sc (Go.Eng.SV.int Go.IntKind.i64 n4))), (Option.some (Go.Eng.AV.sc (Go.Eng.SV.slc 2 Option.none b1))), (Option.some (Go.Eng.AV.sc (Go.Eng.SV.int Go.IntKind.i64 n5)))] [(Option.some (Go.Eng.HE.mk Bool.false (Go.Eng.HB.exp Option.none [(Go.Eng.SV.slc 1 Option.none b2), (Go.Eng.SV.int Go.IntKind.i64 n6), (Go.Eng.SV.int Go.IntKind.u64 n7), (Go.Eng.SV.int Go.IntKind.i64 n8)]))), (Option.some (Go.Eng.HE.mk Bool.true (Go.Eng.HB.rows (Go.Sa.B.u8 l1)))), (Option.some (Go.Eng.HE.mk Bool.false (Go.Eng.HB.rows (Go.Sa.B.u8 l2))))] KL = l_spec_l01Src_bytes_Wr_0 N n4 b2 n8 l1 (fun b4 n16 n17 l4 => KL Go.Eng.Ex.normal [(Option.some (Go.Eng.AV.sc (Go.Eng.SV.slc 2 Option.none b4)))] [(Option.some (Go.Eng.HE.mk Bool.false (Go.Eng.HB.exp Option.none [(Go.Eng.SV.slc 1 Option.none b2), (Go.Eng.SV.int Go.IntKind.i64 n16), (Go.Eng.SV.int Go.IntKind.u64 n17), (Go.Eng.SV.int Go.IntKind.i64 n8)]))), (Option.some (Go.Eng.HE.mk Bool.true (Go.Eng.HB.rows (Go.Sa.B.u8 l1)))), (Option.some (Go.Eng.HE.mk Bool.false (Go.Eng.HB.rows (Go.Sa.B.u8 l4))))]) f b1 n5 n6 n7 l2 := by
  intro f
  induction f with
  | zero => intros; rfl
  | succ f ih =>
    intro b1 n5 n6 n7 l2
    rw [iterK_succ, se_spec_l01Src_bytes_Wr_0]
    exact (congrArg (fun z0 => s_spec_l01Src_bytes_Wr_0 N n4 b2 n8 l1 b1 n5 n6 n7 l2 z0 (fun b4 n16 n17 l4 => KL Go.Eng.Ex.normal [(Option.some (Go.Eng.AV.sc (Go.Eng.SV.slc 2 Option.none b4)))] [(Option.some (Go.Eng.HE.mk Bool.false (Go.Eng.HB.exp Option.none [(Go.Eng.SV.slc 1 Option.none b2), (Go.Eng.SV.int Go.IntKind.i64 n16), (Go.Eng.SV.int Go.IntKind.u64 n17), (Go.Eng.SV.int Go.IntKind.i64 n8)]))), (Option.some (Go.Eng.HE.mk Bool.true (Go.Eng.HB.rows (Go.Sa.B.u8 l1)))), (Option.some (Go.Eng.HE.mk Bool.false (Go.Eng.HB.rows (Go.Sa.B.u8 l4))))])) (funext fun b1 => funext fun n5 => funext fun n6 => funext fun n7 => funext fun l2 => ih b1 n5 n6 n7 l2))
def i_spec_l01Src_bytes_Wr_0 (N : Nat) {R : Type} (vs : List (Option AV)) (H : Hp E) (KL : Ex → List (Option AV) → Hp E → Option R) : Option R :=
  match vs, H with
  | [(Option.some (Go.Eng.AV.sc (Go.Eng.SV.ptr 0 0 0))), (Option.some (Go.Eng.AV.sc (Go.Eng.SV.int Go.IntKind.i64 n4))), (Option.some (Go.Eng.AV.sc (Go.Eng.SV.slc 2 Option.none b1))), (Option.some (Go.Eng.AV.sc (Go.Eng.SV.int Go.IntKind.i64 n5)))], [(Option.some (Go.Eng.HE.mk Bool.false (Go.Eng.HB.exp Option.none [(Go.Eng.SV.slc 1 Option.none b2), (Go.Eng.SV.int Go.IntKind.i64 n6), (Go.Eng.SV.int Go.IntKind.u64 n7), (Go.Eng.SV.int Go.IntKind.i64 n8)]))), (Option.some (Go.Eng.HE.mk Bool.true (Go.Eng.HB.rows (Go.Sa.B.u8 l1)))), (Option.some (Go.Eng.HE.mk Bool.false (Go.Eng.HB.rows (Go.Sa.B.u8 l2))))] => c_spec_l01Src_bytes_Wr_0 N n4 b2 n8 l1 b1 n5 n6 n7 l2 (fun b5 n18 n19 l5 => KL Go.Eng.Ex.normal [(Option.some (Go.Eng.AV.sc (Go.Eng.SV.slc 2 Option.none b5)))] [(Option.some (Go.Eng.HE.mk Bool.false (Go.Eng.HB.exp Option.none [(Go.Eng.SV.slc 1 Option.none b2), (Go.Eng.SV.int Go.IntKind.i64 n18), (Go.Eng.SV.int Go.IntKind.u64 n19), (Go.Eng.SV.int Go.IntKind.i64 n8)]))), (Option.some (Go.Eng.HE.mk Bool.true (Go.Eng.HB.rows (Go.Sa.B.u8 l1)))), (Option.some (Go.Eng.HE.mk Bool.false (Go.Eng.HB.rows (Go.Sa.B.u8 l5))))])
  | _, _ => none
noncomputable def IT_spec_l01Src_bytes_Wr_0 (N : Nat) : Its E := addIt 0 (i_spec_l01Src_bytes_Wr_0 N) (noIt)
theorem IT_spec_l01Src_bytes_Wr_0_ok (N : Nat) : ItOk (IT_spec_l01Src_bytes_Wr_0 N) 2 21 sl_spec_l01Src_bytes_Wr (lsB Go.Proofs.Try.f162 [0]) :=
  addItB_ok (inner := []) ok (O_spec_l01Src_bytes_Wr_ok N) (jn_ok _ _ _) (noIt_ok) rfl (by kernel_rfl) rfl fun vs H KL r h => by
    unfold i_spec_l01Src_bytes_Wr_0 at h
    split at h
    · exact ⟨_, (le_spec_l01Src_bytes_Wr_0 N _ _ _ _ KL N _ _ _ _ _).trans h⟩
    · cases h
def g_spec_l01Src_bytes_Wr (N : Nat) {R : Type} (n : Int) (b : Bool) (n1 : Int) (n2 : Int) (n3 : Int) (l : List Int) (k : ByteArray → Int → Int → Option R) : Option R :=
  (c_spec_l01Src_bytes_Wr_0 N n b n3 l Bool.false (0 : Int) n1 n2 [] fun b3 n12 n13 l3 =>
  (cond (Nat.ble (0 + (List.length l3)) (List.length l3))
  (k (Go.Eng.toBytes (Go.Eng.seg l3 0 (List.length l3))) n12 n13)
  none))
theorem e_spec_l01Src_bytes_Wr (N : Nat) {R : Type} (n : Int) (b : Bool) (n1 : Int) (n2 : Int) (n3 : Int) (l : List Int) (K : AV → Hp E → Option R) :
    runFnI (E := E) (O_spec_l01Src_bytes_Wr N) (IT_spec_l01Src_bytes_Wr_0 N) sl_spec_l01Src_bytes_Wr J_spec_l01Src_bytes_Wr Go.Proofs.Try.f162 [(Go.Eng.AV.sc (Go.Eng.SV.ptr 0 0 0)), (Go.Eng.AV.sc (Go.Eng.SV.int Go.IntKind.i64 n))] [(Option.some (Go.Eng.HE.mk Bool.false (Go.Eng.HB.exp Option.none [(Go.Eng.SV.slc 1 Option.none b), (Go.Eng.SV.int Go.IntKind.i64 n1), (Go.Eng.SV.int Go.IntKind.u64 n2), (Go.Eng.SV.int Go.IntKind.i64 n3)]))), (Option.some (Go.Eng.HE.mk Bool.true (Go.Eng.HB.rows (Go.Sa.B.u8 l))))] K =
      g_spec_l01Src_bytes_Wr N n b n1 n2 n3 l (fun s n14 n15 => K (Go.Eng.AV.sc (Go.Eng.SV.str s)) [(Option.some (Go.Eng.HE.mk Bool.false (Go.Eng.HB.exp Option.none [(Go.Eng.SV.slc 1 Option.none b), (Go.Eng.SV.int Go.IntKind.i64 n14), (Go.Eng.SV.int Go.IntKind.u64 n15), (Go.Eng.SV.int Go.IntKind.i64 n3)]))), (Option.some (Go.Eng.HE.mk Bool.true (Go.Eng.HB.rows (Go.Sa.B.u8 l))))]) := by kernel_rfl
def o_spec_l01Src_bytes_Wr (N : Nat) {R : Type} (args : List AV) (H : Hp E) (K : AV → Hp E → Option R) : Option R :=
  match args, H with
  | [(Go.Eng.AV.sc (Go.Eng.SV.ptr 0 0 0)), (Go.Eng.AV.sc (Go.Eng.SV.int Go.IntKind.i64 n))], [(Option.some (Go.Eng.HE.mk Bool.false (Go.Eng.HB.exp Option.none [(Go.Eng.SV.slc 1 Option.none b), (Go.Eng.SV.int Go.IntKind.i64 n1), (Go.Eng.SV.int Go.IntKind.u64 n2), (Go.Eng.SV.int Go.IntKind.i64 n3)]))), (Option.some (Go.Eng.HE.mk Bool.true (Go.Eng.HB.rows (Go.Sa.B.u8 l))))] => g_spec_l01Src_bytes_Wr N n b n1 n2 n3 l (fun s n14 n15 => K (Go.Eng.AV.sc (Go.Eng.SV.str s)) [(Option.some (Go.Eng.HE.mk Bool.false (Go.Eng.HB.exp Option.none [(Go.Eng.SV.slc 1 Option.none b), (Go.Eng.SV.int Go.IntKind.i64 n14), (Go.Eng.SV.int Go.IntKind.u64 n15), (Go.Eng.SV.int Go.IntKind.i64 n3)]))), (Option.some (Go.Eng.HE.mk Bool.true (Go.Eng.HB.rows (Go.Sa.B.u8 l))))])
  | _, _ => none
theorem o_spec_l01Src_bytes_Wr_ok (N : Nat) : FnOk E 162 (o_spec_l01Src_bytes_Wr N) := by
  intro R args H K r h
  unfold o_spec_l01Src_bytes_Wr at h
  dsimp only at h
  split at h
  · exact fnB_ok (ids := [0]) (top := [0]) ok (O_spec_l01Src_bytes_Wr_ok N) (jn_ok _ _ _) Go.Proofs.Try.func162 (by kernel_rfl) (IT := IT_spec_l01Src_bytes_Wr_0 N) (sl := sl_spec_l01Src_bytes_Wr) (J := J_spec_l01Src_bytes_Wr) (K := K) (H := [(Option.some (Go.Eng.HE.mk Bool.false (Go.Eng.HB.exp Option.none [(Go.Eng.SV.slc 1 Option.none _), (Go.Eng.SV.int Go.IntKind.i64 _), (Go.Eng.SV.int Go.IntKind.u64 _), (Go.Eng.SV.int Go.IntKind.i64 _)]))), (Option.some (Go.Eng.HE.mk Bool.true (Go.Eng.HB.rows (Go.Sa.B.u8 _))))]) (IT_spec_l01Src_bytes_Wr_0_ok N) (by kernel_rfl) rfl ((e_spec_l01Src_bytes_Wr N _ _ _ _ _ _ K).trans h)
  · cases h
/-! ### (*loop.example/g00038/spec.l01Src).one -/
abbrev sl_spec_l01Src_one_Wr : SlotT := []
abbrev J_spec_l01Src_one_Wr : JT := jn [] [] []
noncomputable def O_spec_l01Src_one_Wr (N : Nat) : Orc E := addFn 103 (o_spec_l01Src_n_Wr N) (noFn)
theorem O_spec_l01Src_one_Wr_ok (N : Nat) : OrcOk (O_spec_l01Src_one_Wr N) := addFn_ok (o_spec_l01Src_n_Wr_ok N) (noFn_ok)
def g_spec_l01Src_one_Wr (N : Nat) {R : Type} (n : Int) (b : Bool) (n1 : Int) (n2 : Int) (n3 : Int) (l : List Int) (k : Bool → Int → Int → Option R) : Option R :=
  (g_spec_l01Src_n_Wr N n b n1 n2 n3 l fun n4 n5 n6 =>
  (k (n4 == (0 : Int)) n5 n6))
theorem e_spec_l01Src_one_Wr (N : Nat) {R : Type} (n : Int) (b : Bool) (n1 : Int) (n2 : Int) (n3 : Int) (l : List Int) (K : AV → Hp E → Option R) :
    runFnI (E := E) (O_spec_l01Src_one_Wr N) (noIt) sl_spec_l01Src_one_Wr J_spec_l01Src_one_Wr Go.Proofs.Try.f129 [(Go.Eng.AV.sc (Go.Eng.SV.ptr 0 0 0)), (Go.Eng.AV.sc (Go.Eng.SV.int Go.IntKind.i64 n))] [(Option.some (Go.Eng.HE.mk Bool.false (Go.Eng.HB.exp Option.none [(Go.Eng.SV.slc 1 Option.none b), (Go.Eng.SV.int Go.IntKind.i64 n1), (Go.Eng.SV.int Go.IntKind.u64 n2), (Go.Eng.SV.int Go.IntKind.i64 n3)]))), (Option.some (Go.Eng.HE.mk Bool.true (Go.Eng.HB.rows (Go.Sa.B.u8 l))))] K =
      g_spec_l01Src_one_Wr N n b n1 n2 n3 l (fun b1 n7 n8 => K (Go.Eng.AV.sc (Go.Eng.SV.bool b1)) [(Option.some (Go.Eng.HE.mk Bool.false (Go.Eng.HB.exp Option.none [(Go.Eng.SV.slc 1 Option.none b), (Go.Eng.SV.int Go.IntKind.i64 n7), (Go.Eng.SV.int Go.IntKind.u64 n8), (Go.Eng.SV.int Go.IntKind.i64 n3)]))), (Option.some (Go.Eng.HE.mk Bool.true (Go.Eng.HB.rows (Go.Sa.B.u8 l))))]) := by kernel_rfl
def o_spec_l01Src_one_Wr (N : Nat) {R : Type} (args : List AV) (H : Hp E) (K : AV → Hp E → Option R) : Option R :=
  match args, H with
  | [(Go.Eng.AV.sc (Go.Eng.SV.ptr 0 0 0)), (Go.Eng.AV.sc (Go.Eng.SV.int Go.IntKind.i64 n))], [(Option.some (Go.Eng.HE.mk Bool.false (Go.Eng.HB.exp Option.none [(Go.Eng.SV.slc 1 Option.none b), (Go.Eng.SV.int Go.IntKind.i64 n1), (Go.Eng.SV.int Go.IntKind.u64 n2), (Go.Eng.SV.int Go.IntKind.i64 n3)]))), (Option.some (Go.Eng.HE.mk Bool.true (Go.Eng.HB.rows (Go.Sa.B.u8 l))))] => g_spec_l01Src_one_Wr N n b n1 n2 n3 l (fun b1 n7 n8 => K (Go.Eng.AV.sc (Go.Eng.SV.bool b1)) [(Option.some (Go.Eng.HE.mk Bool.false (Go.Eng.HB.exp Option.none [(Go.Eng.SV.slc 1 Option.none b), (Go.Eng.SV.int Go.IntKind.i64 n7), (Go.Eng.SV.int Go.IntKind.u64 n8), (Go.Eng.SV.int Go.IntKind.i64 n3)]))), (Option.some (Go.Eng.HE.mk Bool.true (Go.Eng.HB.rows (Go.Sa.B.u8 l))))])
  | _, _ => none
theorem o_spec_l01Src_one_Wr_ok (N : Nat) : FnOk E 129 (o_spec_l01Src_one_Wr N) := by
  intro R args H K r h
  unfold o_spec_l01Src_one_Wr at h
  dsimp only at h
  split at h
  · exact fnB_ok (ids := []) (top := []) ok (O_spec_l01Src_one_Wr_ok N) (jn_ok _ _ _) Go.Proofs.Try.func129 (by kernel_rfl) (IT := noIt) (sl := sl_spec_l01Src_one_Wr) (J := J_spec_l01Src_one_Wr) (K := K) (H := [(Option.some (Go.Eng.HE.mk Bool.false (Go.Eng.HB.exp Option.none [(Go.Eng.SV.slc 1 Option.none _), (Go.Eng.SV.int Go.IntKind.i64 _), (Go.Eng.SV.int Go.IntKind.u64 _), (Go.Eng.SV.int Go.IntKind.i64 _)]))), (Option.some (Go.Eng.HE.mk Bool.true (Go.Eng.HB.rows (Go.Sa.B.u8 _))))]) (noIt_ok) (by kernel_rfl) rfl ((e_spec_l01Src_one_Wr N _ _ _ _ _ _ K).trans h)
  · cases h
/-! ### (*loop.example/g00038/spec.l01Src).zeros -/
abbrev sl_spec_l01Src_zeros_Wr : SlotT := []
abbrev J_spec_l01Src_zeros_Wr : JT := jn [] [] []
noncomputable def O_spec_l01Src_zeros_Wr (N : Nat) : Orc E := noFn
theorem O_spec_l01Src_zeros_Wr_ok (N : Nat) : OrcOk (O_spec_l01Src_zeros_Wr N) := noFn_ok
def g_spec_l01Src_zeros_Wr (N : Nat) {R : Type} (n : Int) (b : Bool) (n1 : Int) (n2 : Int) (n3 : Int) (l : List Int) (k : ByteArray → Option R) : Option R :=
  (cond (((decide ((n = n))) && (decide (((0 : Int) ≤ n)))) && (Go.Eng.roomOk (Int.toNat n) 1))
  (cond (Nat.ble (0 + (List.length (List.replicate (Int.toNat n) (0 : Int)))) (List.length (List.replicate (Int.toNat n) (0 : Int))))
    (k (Go.Eng.toBytes (Go.Eng.seg (List.replicate (Int.toNat n) (0 : Int)) 0 (List.length (List.replicate (Int.toNat n) (0 : Int))))))
    none)
  none)
theorem e_spec_l01Src_zeros_Wr (N : Nat) {R : Type} (n : Int) (b : Bool) (n1 : Int) (n2 : Int) (n3 : Int) (l : List Int) (K : AV → Hp E → Option R) :
    runFnI (E := E) (O_spec_l01Src_zeros_Wr N) (noIt) sl_spec_l01Src_zeros_Wr J_spec_l01Src_zeros_Wr Go.Proofs.Try.f143 [(Go.Eng.AV.sc (Go.Eng.SV.ptr 0 0 0)), (Go.Eng.AV.sc (Go.Eng.SV.int Go.IntKind.i64 n))] [(Option.some (Go.Eng.HE.mk Bool.false (Go.Eng.HB.exp Option.none [(Go.Eng.SV.slc 1 Option.none b), (Go.Eng.SV.int Go.IntKind.i64 n1), (Go.Eng.SV.int Go.IntKind.u64 n2), (Go.Eng.SV.int Go.IntKind.i64 n3)]))), (Option.some (Go.Eng.HE.mk Bool.true (Go.Eng.HB.rows (Go.Sa.B.u8 l))))] K =
      g_spec_l01Src_zeros_Wr N n b n1 n2 n3 l (fun s => K (Go.Eng.AV.sc (Go.Eng.SV.str s)) [(Option.some (Go.Eng.HE.mk Bool.false (Go.Eng.HB.exp Option.none [(Go.Eng.SV.slc 1 Option.none b), (Go.Eng.SV.int Go.IntKind.i64 n1), (Go.Eng.SV.int Go.IntKind.u64 n2), (Go.Eng.SV.int Go.IntKind.i64 n3)]))), (Option.some (Go.Eng.HE.mk Bool.true (Go.Eng.HB.rows (Go.Sa.B.u8 l))))]) := by kernel_rfl
def o_spec_l01Src_zeros_Wr (N : Nat) {R : Type} (args : List AV) (H : Hp E) (K : AV → Hp E → Option R) : Option R :=
  match args, H with
  | [(Go.Eng.AV.sc (Go.Eng.SV.ptr 0 0 0)), (Go.Eng.AV.sc (Go.Eng.SV.int Go.IntKind.i64 n))], [(Option.some (Go.Eng.HE.mk Bool.false (Go.Eng.HB.exp Option.none [(Go.Eng.SV.slc 1 Option.none b), (Go.Eng.SV.int Go.IntKind.i64 n1), (Go.Eng.SV.int Go.IntKind.u64 n2), (Go.Eng.SV.int Go.IntKind.i64 n3)]))), (Option.some (Go.Eng.HE.mk Bool.true (Go.Eng.HB.rows (Go.Sa.B.u8 l))))] => g_spec_l01Src_zeros_Wr N n b n1 n2 n3 l (fun s => K (Go.Eng.AV.sc (Go.Eng.SV.str s)) [(Option.some (Go.Eng.HE.mk Bool.false (Go.Eng.HB.exp Option.none [(Go.Eng.SV.slc 1 Option.none b), (Go.Eng.SV.int Go.IntKind.i64 n1), (Go.Eng.SV.int Go.IntKind.u64 n2), (Go.Eng.SV.int Go.IntKind.i64 n3)]))), (Option.some (Go.Eng.HE.mk Bool.true (Go.Eng.HB.rows (Go.Sa.B.u8 l))))])
  | _, _ => none
theorem o_spec_l01Src_zeros_Wr_ok (N : Nat) : FnOk E 143 (o_spec_l01Src_zeros_Wr N) := by
  intro R args H K r h
  unfold o_spec_l01Src_zeros_Wr at h
  dsimp only at h
  split at h
  · exact fnB_ok (ids := []) (top := []) ok (O_spec_l01Src_zeros_Wr_ok N) (jn_ok _ _ _) Go.Proofs.Try.func143 (by kernel_rfl) (IT := noIt) (sl := sl_spec_l01Src_zeros_Wr) (J := J_spec_l01Src_zeros_Wr) (K := K) (H := [(Option.some (Go.Eng.HE.mk Bool.false (Go.Eng.HB.exp Option.none [(Go.Eng.SV.slc 1 Option.none _), (Go.Eng.SV.int Go.IntKind.i64 _), (Go.Eng.SV.int Go.IntKind.u64 _), (Go.Eng.SV.int Go.IntKind.i64 _)]))), (Option.some (Go.Eng.HE.mk Bool.true (Go.Eng.HB.rows (Go.Sa.B.u8 _))))]) (noIt_ok) (by kernel_rfl) rfl ((e_spec_l01Src_zeros_Wr N _ _ _ _ _ _ K).trans h)
  · cases h
/-! ### loop.example/g00038/spec.BoardFault -/
abbrev sl_spec_BoardFault_w : SlotT := [(0, ([1, 3], [2]))]
abbrev J_spec_BoardFault_w : JT := jn [(1, [(28, .b)]), (7, [(84, .b)])] [] []
noncomputable def O_spec_BoardFault_w (N : Nat) : Orc E := noFn
theorem O_spec_BoardFault_w_ok (N : Nat) : OrcOk (O_spec_BoardFault_w N) := noFn_ok
def s_spec_BoardFault_w_0 (N : Nat) {R : Type} (l1 : List Go.Sa.Device) (n3 : Int) (n4 : Int) (b1 : Bool) (n2 : Int) (ag : Int → Option R)  (kR : Option R) (kN : Option R) : Option R :=
  (cond (decide ((n2 < (((List.length l1) : Nat) : Int))))
  (cond ((decide (((0 : Int) ≤ n2))) && (decide ((n2 < (((List.length l1) : Nat) : Int)))))
    (elemK l1 (Int.toNat n2) fun x =>
      (oK (cond (decide (((Go.Sa.Device.fKind x) < (1 : Int))))
        (some Bool.true)
        (cond (decide (((Go.Sa.Device.fKind x) > (255 : Int))))
          (some Bool.true)
          (cond (decide (((Go.Sa.Device.fPort x) < (0 : Int))))
            (some Bool.true)
            (cond (decide (((Go.Sa.Device.fPort x) > (2047 : Int))))
              (some Bool.true)
              (cond (decide (((Go.Sa.Device.fLine x) < (0 : Int))))
                (some Bool.true)
                (cond (decide (((Go.Sa.Device.fLine x) > (6 : Int))))
                  (some Bool.true)
                  (cond (decide ((n2 > (0 : Int))))
                    (cond ((decide (((0 : Int) ≤ (Go.IntKind.wrap Go.IntKind.i64 (n2 - (1 : Int)))))) && (decide (((Go.IntKind.wrap Go.IntKind.i64 (n2 - (1 : Int))) < (((List.length l1) : Nat) : Int)))))
                      (elemK l1 (Int.toNat (Go.IntKind.wrap Go.IntKind.i64 (n2 - (1 : Int)))) fun x1 =>
                        (some (decide (((Go.Sa.Device.fPort x1) ≥ (Go.Sa.Device.fPort x))))))
                      none)
                    (some Bool.false)))))))) fun j1 =>
      (cond j1
      kR
      (ag (Go.IntKind.wrap Go.IntKind.i64 (n2 + (1 : Int)))))))
    none)
  kN)
def l_spec_BoardFault_w_0 (N : Nat) {R : Type} (l1 : List Go.Sa.Device) (n3 : Int) (n4 : Int) (b1 : Bool) (kR : Option R) (kN : Option R) : Nat → Int → Option R
  | 0, _ => none
  | f + 1, n2 => s_spec_BoardFault_w_0 N l1 n3 n4 b1 n2 (fun n2 => l_spec_BoardFault_w_0 N l1 n3 n4 b1 kR kN f n2)  kR kN
def c_spec_BoardFault_w_0 (N : Nat) {R : Type} (l1 : List Go.Sa.Device) (n3 : Int) (n4 : Int) (b1 : Bool) (n2 : Int) (kR : Option R) (kN : Option R) : Option R := l_spec_BoardFault_w_0 N l1 n3 n4 b1 kR kN N n2
theorem se_spec_BoardFault_w_0 (N : Nat) {R : Type} (l1 : List Go.Sa.Device) (n3 : Int) (n4 : Int) (b1 : Bool) (n2 : Int) (AG : List (Option AV) → Hp E → Option R) (KL : Ex → List (Option AV) → Hp E → Option R) :
    iterStep (E := E) (O_spec_BoardFault_w N) (fun {R} => LI (noIt) 1 85 sl_spec_BoardFault_w (R := R)) J_spec_BoardFault_w 1 85 0 [1, 3] [2] (body Go.Proofs.Try.f43 0) AG KL [(Option.some (Go.Eng.AV.sc (Go.Eng.SV.ptr 1 0 0))), (Option.some (Go.Eng.AV.sc (Go.Eng.SV.int Go.IntKind.i64 n2)))] [(Option.some (Go.Eng.HE.mk Bool.false (Go.Eng.HB.rows (Go.Sa.B.iDevice l1)))), (Option.some (Go.Eng.HE.mk Bool.false (Go.Eng.HB.exp Option.none [(Go.Eng.SV.int Go.IntKind.i64 n3), (Go.Eng.SV.int Go.IntKind.i64 n4), (Go.Eng.SV.slc 0 Option.none b1)])))] =
      s_spec_BoardFault_w_0 N l1 n3 n4 b1 n2 (fun n2 => AG [(Option.some (Go.Eng.AV.sc (Go.Eng.SV.ptr 1 0 0))), (Option.some (Go.Eng.AV.sc (Go.Eng.SV.int Go.IntKind.i64 n2)))] [(Option.some (Go.Eng.HE.mk Bool.false (Go.Eng.HB.rows (Go.Sa.B.iDevice l1)))), (Option.some (Go.Eng.HE.mk Bool.false (Go.Eng.HB.exp Option.none [(Go.Eng.SV.int Go.IntKind.i64 n3), (Go.Eng.SV.int Go.IntKind.i64 n4), (Go.Eng.SV.slc 0 Option.none b1)])))])  (KL Go.Eng.Ex.ret [(Option.some (Go.Eng.AV.sc (Go.Eng.SV.int Go.IntKind.i64 (1 : Int))))] [(Option.some (Go.Eng.HE.mk Bool.false (Go.Eng.HB.rows (Go.Sa.B.iDevice l1))))]) (KL Go.Eng.Ex.normal [Option.none] [(Option.some (Go.Eng.HE.mk Bool.false (Go.Eng.HB.rows (Go.Sa.B.iDevice l1))))]) := by kernel_rfl
theorem le_spec_BoardFault_w_0 (N : Nat) {R : Type} (l1 : List Go.Sa.Device) (n3 : Int) (n4 : Int) (b1 : Bool) (KL : Ex → List (Option AV) → Hp E → Option R) : ∀ (f : Nat), ∀ (n2 : Int), iterK (E := E) (O_spec_BoardFault_w N) (fun {R} => LI (noIt) 1 85 sl_spec_BoardFault_w (R := R)) J_spec_BoardFault_w 1 85 0 [1, 3] [2] (body Go.Proofs.Try.f43 0) f [(Option.some (Go.Eng.AV.sc (Go.Eng.SV.ptr 1 0 0))), (Option.some (Go.Eng.AV.sc (Go.Eng.SV.int Go.IntKind.i64 n2)))] [(Option.some (Go.Eng.HE.mk Bool.false (Go.Eng.HB.rows (Go.Sa.B.iDevice l1)))), (Option.some (Go.Eng.HE.mk Bool.false (Go.Eng.HB.exp Option.none [(Go.Eng.SV.int Go.IntKind.i64 n3), (Go.Eng.SV.int Go.IntKind.i64 n4), (Go.Eng.SV.slc 0 Option.none b1)])))] KL = l_spec_BoardFault_w_0 N l1 n3 n4 b1 (KL Go.Eng.Ex.ret [(Option.some (Go.Eng.AV.sc (Go.Eng.SV.int Go.IntKind.i64 (1 : Int))))] [(Option.some (Go.Eng.HE.mk Bool.false (Go.Eng.HB.rows (Go.Sa.B.iDevice l1))))]) (KL Go.Eng.Ex.normal [Option.none] [(Option.some (Go.Eng.HE.mk Bool.false (Go.Eng.HB.rows (Go.Sa.B.iDevice l1))))]) f n2 := by
  intro f
  induction f with
  | zero => intros; rfl
  | succ f ih =>
    intro n2
    rw [iterK_succ, se_spec_BoardFault_w_0]
    exact (congrArg (fun z0 => s_spec_BoardFault_w_0 N l1 n3 n4 b1 n2 z0 (KL Go.Eng.Ex.ret [(Option.some (Go.Eng.AV.sc (Go.Eng.SV.int Go.IntKind.i64 (1 : Int))))] [(Option.some (Go.Eng.HE.mk Bool.false (Go.Eng.HB.rows (Go.Sa.B.iDevice l1))))]) (KL Go.Eng.Ex.normal [Option.none] [(Option.some (Go.Eng.HE.mk Bool.false (Go.Eng.HB.rows (Go.Sa.B.iDevice l1))))])) (funext fun n2 => ih n2))
def i_spec_BoardFault_w_0 (N : Nat) {R : Type} (vs : List (Option AV)) (H : Hp E) (KL : Ex → List (Option AV) → Hp E → Option R) : Option R :=
  match vs, H with
  | [(Option.some (Go.Eng.AV.sc (Go.Eng.SV.ptr 1 0 0))), (Option.some (Go.Eng.AV.sc (Go.Eng.SV.int Go.IntKind.i64 n2)))], [(Option.some (Go.Eng.HE.mk Bool.false (Go.Eng.HB.rows (Go.Sa.B.iDevice l1)))), (Option.some (Go.Eng.HE.mk Bool.false (Go.Eng.HB.exp Option.none [(Go.Eng.SV.int Go.IntKind.i64 n3), (Go.Eng.SV.int Go.IntKind.i64 n4), (Go.Eng.SV.slc 0 Option.none b1)])))] => c_spec_BoardFault_w_0 N l1 n3 n4 b1 n2 (KL Go.Eng.Ex.ret [(Option.some (Go.Eng.AV.sc (Go.Eng.SV.int Go.IntKind.i64 (1 : Int))))] [(Option.some (Go.Eng.HE.mk Bool.false (Go.Eng.HB.rows (Go.Sa.B.iDevice l1))))]) (KL Go.Eng.Ex.normal [Option.none] [(Option.some (Go.Eng.HE.mk Bool.false (Go.Eng.HB.rows (Go.Sa.B.iDevice l1))))])
  | _, _ => none
noncomputable def IT_spec_BoardFault_w_0 (N : Nat) : Its E := addIt 0 (i_spec_BoardFault_w_0 N) (noIt)
theorem IT_spec_BoardFault_w_0_ok (N : Nat) : ItOk (IT_spec_BoardFault_w_0 N) 1 85 sl_spec_BoardFault_w (lsB Go.Proofs.Try.f43 [0]) :=
  addItB_ok (inner := []) ok (O_spec_BoardFault_w_ok N) (jn_ok _ _ _) (noIt_ok) rfl (by kernel_rfl) rfl fun vs H KL r h => by
    unfold i_spec_BoardFault_w_0 at h
    split at h
    · exact ⟨_, (le_spec_BoardFault_w_0 N _ _ _ _ KL N _).trans h⟩
    · cases h
def g_spec_BoardFault_w (N : Nat) {R : Type} (n : Int) (n1 : Int) (b : Bool) (l : List Go.Sa.Device) (k : Int → Option R) : Option R :=
  (oK (cond (decide ((n < (2 : Int))))
    (some Bool.true)
    (cond (decide ((n > (256 : Int))))
      (some Bool.true)
      (cond (decide ((n1 < (1 : Int))))
        (some Bool.true)
        (cond (decide ((n1 > (8 : Int))))
          (some Bool.true)
          (some (decide (((((List.length l) : Nat) : Int) > (16 : Int))))))))) fun j =>
  (cond j
  (k (1 : Int))
  (c_spec_BoardFault_w_0 N l n n1 b (0 : Int) (
    (k (1 : Int))) (
    (k (0 : Int))))))
theorem e_spec_BoardFault_w (N : Nat) {R : Type} (n : Int) (n1 : Int) (b : Bool) (l : List Go.Sa.Device) (K : AV → Hp E → Option R) :
    runFnI (E := E) (O_spec_BoardFault_w N) (IT_spec_BoardFault_w_0 N) sl_spec_BoardFault_w J_spec_BoardFault_w Go.Proofs.Try.f43 [(Go.Eng.AV.agg [(Go.Eng.SV.int Go.IntKind.i64 n), (Go.Eng.SV.int Go.IntKind.i64 n1), (Go.Eng.SV.slc 0 Option.none b)])] [(Option.some (Go.Eng.HE.mk Bool.false (Go.Eng.HB.rows (Go.Sa.B.iDevice l))))] K =
      g_spec_BoardFault_w N n n1 b l (fun n5 => K (Go.Eng.AV.sc (Go.Eng.SV.int Go.IntKind.i64 n5)) [(Option.some (Go.Eng.HE.mk Bool.false (Go.Eng.HB.rows (Go.Sa.B.iDevice l))))]) := by kernel_rfl
def o_spec_BoardFault_w (N : Nat) {R : Type} (args : List AV) (H : Hp E) (K : AV → Hp E → Option R) : Option R :=
  match args, H with
  | [(Go.Eng.AV.agg [(Go.Eng.SV.int Go.IntKind.i64 n), (Go.Eng.SV.int Go.IntKind.i64 n1), (Go.Eng.SV.slc 0 Option.none b)])], [(Option.some (Go.Eng.HE.mk Bool.false (Go.Eng.HB.rows (Go.Sa.B.iDevice l))))] => g_spec_BoardFault_w N n n1 b l (fun n5 => K (Go.Eng.AV.sc (Go.Eng.SV.int Go.IntKind.i64 n5)) [(Option.some (Go.Eng.HE.mk Bool.false (Go.Eng.HB.rows (Go.Sa.B.iDevice l))))])
  | _, _ => none
theorem o_spec_BoardFault_w_ok (N : Nat) : FnOk E 43 (o_spec_BoardFault_w N) := by
  intro R args H K r h
  unfold o_spec_BoardFault_w at h
  dsimp only at h
  split at h
  · exact fnB_ok (ids := [0]) (top := [0]) ok (O_spec_BoardFault_w_ok N) (jn_ok _ _ _) Go.Proofs.Try.func43 (by kernel_rfl) (IT := IT_spec_BoardFault_w_0 N) (sl := sl_spec_BoardFault_w) (J := J_spec_BoardFault_w) (K := K) (H := [(Option.some (Go.Eng.HE.mk Bool.false (Go.Eng.HB.rows (Go.Sa.B.iDevice _))))]) (IT_spec_BoardFault_w_0_ok N) (by kernel_rfl) rfl ((e_spec_BoardFault_w N _ _ _ _ K).trans h)
  · cases h
/-! ### loop.example/g00038/spec.l01Mod -/
abbrev sl_spec_l01Mod : SlotT := []
abbrev J_spec_l01Mod : JT := jn [] [(10, [(5, .i .i64)])] []
noncomputable def O_spec_l01Mod (N : Nat) : Orc E := noFn
theorem O_spec_l01Mod_ok (N : Nat) : OrcOk (O_spec_l01Mod N) := noFn_ok
def g_spec_l01Mod (N : Nat) {R : Type} (n : Int) (n1 : Int) (k : Int → Option R) : Option R :=
  (cond (n1 == (0 : Int))
  none
  (oK (cond (decide (((Int.tmod n n1) < (0 : Int))))
      (some (Go.IntKind.wrap Go.IntKind.i64 ((Int.tmod n n1) + n1)))
      (some (Int.tmod n n1))) fun j =>
    (k j)))
theorem e_spec_l01Mod (N : Nat) {R : Type} (n : Int) (n1 : Int) (K : AV → Hp E → Option R) :
    runFnI (E := E) (O_spec_l01Mod N) (noIt) sl_spec_l01Mod J_spec_l01Mod Go.Proofs.Try.f158 [(Go.Eng.AV.sc (Go.Eng.SV.int Go.IntKind.i64 n)), (Go.Eng.AV.sc (Go.Eng.SV.int Go.IntKind.i64 n1))] [] K =
      g_spec_l01Mod N n n1 (fun n2 => K (Go.Eng.AV.sc (Go.Eng.SV.int Go.IntKind.i64 n2)) []) := by kernel_rfl
def o_spec_l01Mod (N : Nat) {R : Type} (args : List AV) (H : Hp E) (K : AV → Hp E → Option R) : Option R :=
  match args, H with
  | [(Go.Eng.AV.sc (Go.Eng.SV.int Go.IntKind.i64 n)), (Go.Eng.AV.sc (Go.Eng.SV.int Go.IntKind.i64 n1))], [] => g_spec_l01Mod N n n1 (fun n2 => K (Go.Eng.AV.sc (Go.Eng.SV.int Go.IntKind.i64 n2)) [])
  | _, _ => none
theorem o_spec_l01Mod_ok (N : Nat) : FnOk E 158 (o_spec_l01Mod N) := by
  intro R args H K r h
  unfold o_spec_l01Mod at h
  dsimp only at h
  split at h
  · exact fnB_ok (ids := []) (top := []) ok (O_spec_l01Mod_ok N) (jn_ok _ _ _) Go.Proofs.Try.func158 (by kernel_rfl) (IT := noIt) (sl := sl_spec_l01Mod) (J := J_spec_l01Mod) (K := K) (H := []) (noIt_ok) (by kernel_rfl) rfl ((e_spec_l01Mod N _ _ K).trans h)
  · cases h
/-! ### loop.example/g00038/spec.Word -/
abbrev sl_spec_Word : SlotT := []
abbrev J_spec_Word : JT := jn [] [] []
noncomputable def O_spec_Word (N : Nat) : Orc E := addFn 158 (o_spec_l01Mod N) (noFn)
theorem O_spec_Word_ok (N : Nat) : OrcOk (O_spec_Word N) := addFn_ok (o_spec_l01Mod_ok N) (noFn_ok)
def g_spec_Word (N : Nat) {R : Type} (n : Int) (k : Int → Option R) : Option R :=
  (g_spec_l01Mod N n (4294967296 : Int) fun n1 =>
  (k n1))
theorem e_spec_Word (N : Nat) {R : Type} (n : Int) (K : AV → Hp E → Option R) :
    runFnI (E := E) (O_spec_Word N) (noIt) sl_spec_Word J_spec_Word Go.Proofs.Try.f93 [(Go.Eng.AV.sc (Go.Eng.SV.int Go.IntKind.i64 n))] [] K =
      g_spec_Word N n (fun n2 => K (Go.Eng.AV.sc (Go.Eng.SV.int Go.IntKind.i64 n2)) []) := by kernel_rfl
def o_spec_Word (N : Nat) {R : Type} (args : List AV) (H : Hp E) (K : AV → Hp E → Option R) : Option R :=
  match args, H with
  | [(Go.Eng.AV.sc (Go.Eng.SV.int Go.IntKind.i64 n))], [] => g_spec_Word N n (fun n2 => K (Go.Eng.AV.sc (Go.Eng.SV.int Go.IntKind.i64 n2)) [])
  | _, _ => none
theorem o_spec_Word_ok (N : Nat) : FnOk E 93 (o_spec_Word N) := by
  intro R args H K r h
  unfold o_spec_Word at h
  dsimp only at h
  split at h
  · exact fnB_ok (ids := []) (top := []) ok (O_spec_Word_ok N) (jn_ok _ _ _) Go.Proofs.Try.func93 (by kernel_rfl) (IT := noIt) (sl := sl_spec_Word) (J := J_spec_Word) (K := K) (H := []) (noIt_ok) (by kernel_rfl) rfl ((e_spec_Word N _ K).trans h)
  · cases h
/-! ### loop.example/g00038/spec.PutWord -/
abbrev sl_spec_PutWord : SlotT := []
abbrev J_spec_PutWord : JT := jn [] [] []
noncomputable def O_spec_PutWord (N : Nat) : Orc E := addFn 93 (o_spec_Word N) (noFn)
theorem O_spec_PutWord_ok (N : Nat) : OrcOk (O_spec_PutWord N) := addFn_ok (o_spec_Word_ok N) (noFn_ok)
def g_spec_PutWord (N : Nat) {R : Type} (n : Int) (k : ByteArray → Option R) : Option R :=
  (g_spec_Word N n fun n1 =>
  (k (Go.Eng.toBytes (Go.Eng.seg [(Go.IntKind.wrap Go.IntKind.u8 n1), (Go.IntKind.wrap Go.IntKind.u8 (Int.fdiv n1 (256 : Int))), (Go.IntKind.wrap Go.IntKind.u8 (Int.fdiv n1 (65536 : Int))), (Go.IntKind.wrap Go.IntKind.u8 (Int.fdiv n1 (16777216 : Int)))] 0 (List.length [(Go.IntKind.wrap Go.IntKind.u8 n1), (Go.IntKind.wrap Go.IntKind.u8 (Int.fdiv n1 (256 : Int))), (Go.IntKind.wrap Go.IntKind.u8 (Int.fdiv n1 (65536 : Int))), (Go.IntKind.wrap Go.IntKind.u8 (Int.fdiv n1 (16777216 : Int)))])))))
theorem e_spec_PutWord (N : Nat) {R : Type} (n : Int) (K : AV → Hp E → Option R) :
    runFnI (E := E) (O_spec_PutWord N) (noIt) sl_spec_PutWord J_spec_PutWord Go.Proofs.Try.f109 [(Go.Eng.AV.sc (Go.Eng.SV.int Go.IntKind.i64 n))] [] K =
      g_spec_PutWord N n (fun s => K (Go.Eng.AV.sc (Go.Eng.SV.str s)) []) := by kernel_rfl
def o_spec_PutWord (N : Nat) {R : Type} (args : List AV) (H : Hp E) (K : AV → Hp E → Option R) : Option R :=
  match args, H with
  | [(Go.Eng.AV.sc (Go.Eng.SV.int Go.IntKind.i64 n))], [] => g_spec_PutWord N n (fun s => K (Go.Eng.AV.sc (Go.Eng.SV.str s)) [])
  | _, _ => none
theorem o_spec_PutWord_ok (N : Nat) : FnOk E 109 (o_spec_PutWord N) := by
  intro R args H K r h
  unfold o_spec_PutWord at h
  dsimp only at h
  split at h
  · exact fnB_ok (ids := []) (top := []) ok (O_spec_PutWord_ok N) (jn_ok _ _ _) Go.Proofs.Try.func109 (by kernel_rfl) (IT := noIt) (sl := sl_spec_PutWord) (J := J_spec_PutWord) (K := K) (H := []) (noIt_ok) (by kernel_rfl) rfl ((e_spec_PutWord N _ K).trans h)
  · cases h
end Go.Sa
