import Derived.Test.YtnopbegjbbbdhaaSpec
import Derived.Test.YtnopbegjbbbdhaaPLb
set_option linter.all false
namespace Go.Sa
open Go Go.Eng Go.Proofs
set_option maxRecDepth 100000
/-! ### loop.example/g00038/laws.toInt64S -/
abbrev sl_laws_toInt64S_r : SlotT := [(0, ([0, 3, 4], [3]))]
abbrev J_laws_toInt64S_r : JT := jn [] [] []
noncomputable def O_laws_toInt64S_r (N : Nat) : Orc E := noFn
theorem O_laws_toInt64S_r_ok (N : Nat) : OrcOk (O_laws_toInt64S_r N) := noFn_ok
def s_laws_toInt64S_r_0 (N : Nat) {R : Type} (b1 : Bool) (b2 : Bool) (l1 : List Int) (n : Int) (l2 : List Int) (ag : Int → (List Int) → Option R)  (kN : (List Int) → Option R) : Option R :=
  (cond (decide ((n < (((List.length l1) : Nat) : Int))))
  (cond ((decide (((0 : Int) ≤ n))) && (decide ((n < (((List.length l1) : Nat) : Int)))))
    (elemK l1 (Int.toNat n) fun x =>
      (cond ((decide (((0 : Int) ≤ n))) && (decide ((n < (((List.length l2) : Nat) : Int)))))
      (elemK l2 (Int.toNat n) fun x1 =>
        (cond (Nat.blt (Int.toNat n) (List.length l2))
        (ag (Go.IntKind.wrap Go.IntKind.i64 (n + (1 : Int))) (Go.Eng.nset l2 (Int.toNat n) x))
        none))
      none))
    none)
  (kN l2))
def l_laws_toInt64S_r_0 (N : Nat) {R : Type} (b1 : Bool) (b2 : Bool) (l1 : List Int) (kN : (List Int) → Option R) : Nat → Int → (List Int) → Option R
  | 0, _, _ => none
  | f + 1, n, l2 => s_laws_toInt64S_r_0 N b1 b2 l1 n l2 (fun n l2 => l_laws_toInt64S_r_0 N b1 b2 l1 kN f n l2)  kN
def c_laws_toInt64S_r_0 (N : Nat) {R : Type} (b1 : Bool) (b2 : Bool) (l1 : List Int) (n : Int) (l2 : List Int) (kN : (List Int) → Option R) : Option R := l_laws_toInt64S_r_0 N b1 b2 l1 kN N n l2
theorem se_laws_toInt64S_r_0 (N : Nat) {R : Type} (b1 : Bool) (b2 : Bool) (l1 : List Int) (n : Int) (l2 : List Int) (AG : List (Option AV) → Hp E → Option R) (KL : Ex → List (Option AV) → Hp E → Option R) :
    iterStep (E := E) (O_laws_toInt64S_r N) (fun {R} => LI (noIt) 1 22 sl_laws_toInt64S_r (R := R)) J_laws_toInt64S_r 1 22 0 [0, 3, 4] [3] (body Go.Proofs.Try.f46 0) AG KL [(Option.some (Go.Eng.AV.sc (Go.Eng.SV.slc 0 Option.none b1))), (Option.some (Go.Eng.AV.sc (Go.Eng.SV.slc 1 Option.none b2))), (Option.some (Go.Eng.AV.sc (Go.Eng.SV.int Go.IntKind.i64 n)))] [(Option.some (Go.Eng.HE.mk Bool.true (Go.Eng.HB.rows (Go.Sa.B.i64 l1)))), (Option.some (Go.Eng.HE.mk Bool.false (Go.Eng.HB.rows (Go.Sa.B.i64 l2))))] =
      s_laws_toInt64S_r_0 N b1 b2 l1 n l2 (fun n l2 => AG [(Option.some (Go.Eng.AV.sc (Go.Eng.SV.slc 0 Option.none b1))), (Option.some (Go.Eng.AV.sc (Go.Eng.SV.slc 1 Option.none b2))), (Option.some (Go.Eng.AV.sc (Go.Eng.SV.int Go.IntKind.i64 n)))] [(Option.some (Go.Eng.HE.mk Bool.true (Go.Eng.HB.rows (Go.Sa.B.i64 l1)))), (Option.some (Go.Eng.HE.mk Bool.false (Go.Eng.HB.rows (Go.Sa.B.i64 l2))))])  (fun l5 => KL Go.Eng.Ex.normal [(Option.some (Go.Eng.AV.sc (Go.Eng.SV.slc 1 Option.none b2)))] [(Option.some (Go.Eng.HE.mk Bool.true (Go.Eng.HB.rows (Go.Sa.B.i64 l1)))), (Option.some (Go.Eng.HE.mk Bool.false (Go.Eng.HB.rows (Go.Sa.B.i64 l5))))]) := by kernel_rfl
theorem le_laws_toInt64S_r_0 (N : Nat) {R : Type} (b1 : Bool) (b2 : Bool) (l1 : List Int) (KL : Ex → List (Option AV) → Hp E → Option R) : ∀ (f : Nat), ∀ (n : Int) (l2 : List Int), iterK (E := E) (O_laws_toInt64S_r N) (fun {R} => LI (noIt) 1 22 sl_laws_toInt64S_r (R := R)) J_laws_toInt64S_r 1 22 0 [0, 3, 4] [3] (body Go.Proofs.Try.f46 0) f [(Option.some (Go.Eng.AV.sc (Go.Eng.SV.slc 0 Option.none b1))), (Option.some (Go.Eng.AV.sc (Go.Eng.SV.slc 1 Option.none b2))), (Option.some (Go.Eng.AV.sc (Go.Eng.SV.int Go.IntKind.i64 n)))] [(Option.some (Go.Eng.HE.mk Bool.true (Go.Eng.HB.rows (Go.Sa.B.i64 l1)))), (Option.some (Go.Eng.HE.mk Bool.false (Go.Eng.HB.rows (Go.Sa.B.i64 l2))))] KL = l_laws_toInt64S_r_0 N b1 b2 l1 (fun l5 => KL Go.Eng.Ex.normal [(Option.some (Go.Eng.AV.sc (Go.Eng.SV.slc 1 Option.none b2)))] [(Option.some (Go.Eng.HE.mk Bool.true (Go.Eng.HB.rows (Go.Sa.B.i64 l1)))), (Option.some (Go.Eng.HE.mk Bool.false (Go.Eng.HB.rows (Go.Sa.B.i64 l5))))]) f n l2 := by
  intro f
  induction f with
  | zero => intros; rfl
  | succ f ih =>
    intro n l2
    rw [iterK_succ, se_laws_toInt64S_r_0]
    exact (congrArg (fun z0 => s_laws_toInt64S_r_0 N b1 b2 l1 n l2 z0 (fun l5 => KL Go.Eng.Ex.normal [(Option.some (Go.Eng.AV.sc (Go.Eng.SV.slc 1 Option.none b2)))] [(Option.some (Go.Eng.HE.mk Bool.true (Go.Eng.HB.rows (Go.Sa.B.i64 l1)))), (Option.some (Go.Eng.HE.mk Bool.false (Go.Eng.HB.rows (Go.Sa.B.i64 l5))))])) (funext fun n => funext fun l2 => ih n l2))
def i_laws_toInt64S_r_0 (N : Nat) {R : Type} (vs : List (Option AV)) (H : Hp E) (KL : Ex → List (Option AV) → Hp E → Option R) : Option R :=
  match vs, H with
  | [(Option.some (Go.Eng.AV.sc (Go.Eng.SV.slc 0 Option.none b1))), (Option.some (Go.Eng.AV.sc (Go.Eng.SV.slc 1 Option.none b2))), (Option.some (Go.Eng.AV.sc (Go.Eng.SV.int Go.IntKind.i64 n)))], [(Option.some (Go.Eng.HE.mk Bool.true (Go.Eng.HB.rows (Go.Sa.B.i64 l1)))), (Option.some (Go.Eng.HE.mk Bool.false (Go.Eng.HB.rows (Go.Sa.B.i64 l2))))] => c_laws_toInt64S_r_0 N b1 b2 l1 n l2 (fun l6 => KL Go.Eng.Ex.normal [(Option.some (Go.Eng.AV.sc (Go.Eng.SV.slc 1 Option.none b2)))] [(Option.some (Go.Eng.HE.mk Bool.true (Go.Eng.HB.rows (Go.Sa.B.i64 l1)))), (Option.some (Go.Eng.HE.mk Bool.false (Go.Eng.HB.rows (Go.Sa.B.i64 l6))))])
  | _, _ => none
noncomputable def IT_laws_toInt64S_r_0 (N : Nat) : Its E := addIt 0 (i_laws_toInt64S_r_0 N) (noIt)
theorem IT_laws_toInt64S_r_0_ok (N : Nat) : ItOk (IT_laws_toInt64S_r_0 N) 1 22 sl_laws_toInt64S_r (lsB Go.Proofs.Try.f46 [0]) :=
  addItB_ok (inner := []) ok (O_laws_toInt64S_r_ok N) (jn_ok _ _ _) (noIt_ok) rfl (by kernel_rfl) rfl fun vs H KL r h => by
    unfold i_laws_toInt64S_r_0 at h
    split at h
    · exact ⟨_, (le_laws_toInt64S_r_0 N _ _ _ KL N _ _).trans h⟩
    · cases h
def g_laws_toInt64S_r (N : Nat) {R : Type} (b : Bool) (l : List Int) (k : (List Int) → Option R) : Option R :=
  (cond (((decide (((((List.length l) : Nat) : Int) = (((List.length l) : Nat) : Int)))) && Bool.true) && (Go.Eng.roomOk (Int.toNat (((List.length l) : Nat) : Int)) 8))
  (c_laws_toInt64S_r_0 N b Bool.false l (0 : Int) (List.replicate (Int.toNat (((List.length l) : Nat) : Int)) (0 : Int)) fun l3 =>
    (k l3))
  none)
theorem e_laws_toInt64S_r (N : Nat) {R : Type} (b : Bool) (l : List Int) (K : AV → Hp E → Option R) :
    runFnI (E := E) (O_laws_toInt64S_r N) (IT_laws_toInt64S_r_0 N) sl_laws_toInt64S_r J_laws_toInt64S_r Go.Proofs.Try.f46 [(Go.Eng.AV.sc (Go.Eng.SV.slc 0 Option.none b))] [(Option.some (Go.Eng.HE.mk Bool.true (Go.Eng.HB.rows (Go.Sa.B.i64 l))))] K =
      g_laws_toInt64S_r N b l (fun l4 => K (Go.Eng.AV.sc (Go.Eng.SV.slc 1 Option.none Bool.false)) [(Option.some (Go.Eng.HE.mk Bool.true (Go.Eng.HB.rows (Go.Sa.B.i64 l)))), (Option.some (Go.Eng.HE.mk Bool.false (Go.Eng.HB.rows (Go.Sa.B.i64 l4))))]) := by kernel_rfl
def o_laws_toInt64S_r (N : Nat) {R : Type} (args : List AV) (H : Hp E) (K : AV → Hp E → Option R) : Option R :=
  match args, H with
  | [(Go.Eng.AV.sc (Go.Eng.SV.slc 0 Option.none b))], [(Option.some (Go.Eng.HE.mk Bool.true (Go.Eng.HB.rows (Go.Sa.B.i64 l))))] => g_laws_toInt64S_r N b l (fun l4 => K (Go.Eng.AV.sc (Go.Eng.SV.slc 1 Option.none Bool.false)) [(Option.some (Go.Eng.HE.mk Bool.true (Go.Eng.HB.rows (Go.Sa.B.i64 l)))), (Option.some (Go.Eng.HE.mk Bool.false (Go.Eng.HB.rows (Go.Sa.B.i64 l4))))])
  | _, _ => none
theorem o_laws_toInt64S_r_ok (N : Nat) : FnOk E 46 (o_laws_toInt64S_r N) := by
  intro R args H K r h
  unfold o_laws_toInt64S_r at h
  dsimp only at h
  split at h
  · exact fnB_ok (ids := [0]) (top := [0]) ok (O_laws_toInt64S_r_ok N) (jn_ok _ _ _) Go.Proofs.Try.func46 (by kernel_rfl) (IT := IT_laws_toInt64S_r_0 N) (sl := sl_laws_toInt64S_r) (J := J_laws_toInt64S_r) (K := K) (H := [(Option.some (Go.Eng.HE.mk Bool.true (Go.Eng.HB.rows (Go.Sa.B.i64 _))))]) (IT_laws_toInt64S_r_0_ok N) (by kernel_rfl) rfl ((e_laws_toInt64S_r N _ _ K).trans h)
  · cases h
/-! ### loop.example/g00038/spec.l01IsWord -/
abbrev sl_spec_l01IsWord : SlotT := []
abbrev J_spec_l01IsWord : JT := jn [(1, [(2, .b)])] [] []
noncomputable def O_spec_l01IsWord (N : Nat) : Orc E := noFn
theorem O_spec_l01IsWord_ok (N : Nat) : OrcOk (O_spec_l01IsWord N) := noFn_ok
def g_spec_l01IsWord (N : Nat) {R : Type} (n : Int) (k : Bool → Option R) : Option R :=
  (oK (cond (decide ((n ≥ (0 : Int))))
    (some (decide ((n < (4294967296 : Int)))))
    (some Bool.false)) fun j =>
  (k j))
theorem e_spec_l01IsWord (N : Nat) {R : Type} (n : Int) (K : AV → Hp E → Option R) :
    runFnI (E := E) (O_spec_l01IsWord N) (noIt) sl_spec_l01IsWord J_spec_l01IsWord Go.Proofs.Try.f114 [(Go.Eng.AV.sc (Go.Eng.SV.int Go.IntKind.i64 n))] [] K =
      g_spec_l01IsWord N n (fun b => K (Go.Eng.AV.sc (Go.Eng.SV.bool b)) []) := by kernel_rfl
def o_spec_l01IsWord (N : Nat) {R : Type} (args : List AV) (H : Hp E) (K : AV → Hp E → Option R) : Option R :=
  match args, H with
  | [(Go.Eng.AV.sc (Go.Eng.SV.int Go.IntKind.i64 n))], [] => g_spec_l01IsWord N n (fun b => K (Go.Eng.AV.sc (Go.Eng.SV.bool b)) [])
  | _, _ => none
theorem o_spec_l01IsWord_ok (N : Nat) : FnOk E 114 (o_spec_l01IsWord N) := by
  intro R args H K r h
  unfold o_spec_l01IsWord at h
  dsimp only at h
  split at h
  · exact fnB_ok (ids := []) (top := []) ok (O_spec_l01IsWord_ok N) (jn_ok _ _ _) Go.Proofs.Try.func114 (by kernel_rfl) (IT := noIt) (sl := sl_spec_l01IsWord) (J := J_spec_l01IsWord) (K := K) (H := []) (noIt_ok) (by kernel_rfl) rfl ((e_spec_l01IsWord N _ K).trans h)
  · cases h
/-! ### loop.example/g00038/spec.l04Words -/
abbrev sl_spec_l04Words_r : SlotT := [(0, ([0, 1, 5], [4]))]
abbrev J_spec_l04Words_r : JT := jn [] [] []
noncomputable def O_spec_l04Words_r (N : Nat) : Orc E := addFn 114 (o_spec_l01IsWord N) (noFn)
theorem O_spec_l04Words_r_ok (N : Nat) : OrcOk (O_spec_l04Words_r N) := addFn_ok (o_spec_l01IsWord_ok N) (noFn_ok)
def s_spec_l04Words_r_0 (N : Nat) {R : Type} (b1 : Bool) (n1 : Int) (l1 : List Int) (n2 : Int) (ag : Int → Option R)  (kR : Option R) (kN : Option R) : Option R :=
  (cond (decide ((n2 < n1)))
  (cond ((decide (((0 : Int) ≤ n2))) && (decide ((n2 < (((List.length l1) : Nat) : Int)))))
    (elemK l1 (Int.toNat n2) fun x =>
      (g_spec_l01IsWord N x fun b2 =>
      (cond (!b2)
      kR
      (ag (Go.IntKind.wrap Go.IntKind.i64 (n2 + (1 : Int)))))))
    none)
  kN)
def l_spec_l04Words_r_0 (N : Nat) {R : Type} (b1 : Bool) (n1 : Int) (l1 : List Int) (kR : Option R) (kN : Option R) : Nat → Int → Option R
  | 0, _ => none
  | f + 1, n2 => s_spec_l04Words_r_0 N b1 n1 l1 n2 (fun n2 => l_spec_l04Words_r_0 N b1 n1 l1 kR kN f n2)  kR kN
def c_spec_l04Words_r_0 (N : Nat) {R : Type} (b1 : Bool) (n1 : Int) (l1 : List Int) (n2 : Int) (kR : Option R) (kN : Option R) : Option R := l_spec_l04Words_r_0 N b1 n1 l1 kR kN N n2
theorem se_spec_l04Words_r_0 (N : Nat) {R : Type} (b1 : Bool) (n1 : Int) (l1 : List Int) (n2 : Int) (AG : List (Option AV) → Hp E → Option R) (KL : Ex → List (Option AV) → Hp E → Option R) :
    iterStep (E := E) (O_spec_l04Words_r N) (fun {R} => LI (noIt) 1 21 sl_spec_l04Words_r (R := R)) J_spec_l04Words_r 1 21 0 [0, 1, 5] [4] (body Go.Proofs.Try.f113 0) AG KL [(Option.some (Go.Eng.AV.sc (Go.Eng.SV.slc 0 Option.none b1))), (Option.some (Go.Eng.AV.sc (Go.Eng.SV.int Go.IntKind.i64 n1))), (Option.some (Go.Eng.AV.sc (Go.Eng.SV.int Go.IntKind.i64 n2)))] [(Option.some (Go.Eng.HE.mk Bool.true (Go.Eng.HB.rows (Go.Sa.B.i64 l1))))] =
      s_spec_l04Words_r_0 N b1 n1 l1 n2 (fun n2 => AG [(Option.some (Go.Eng.AV.sc (Go.Eng.SV.slc 0 Option.none b1))), (Option.some (Go.Eng.AV.sc (Go.Eng.SV.int Go.IntKind.i64 n1))), (Option.some (Go.Eng.AV.sc (Go.Eng.SV.int Go.IntKind.i64 n2)))] [(Option.some (Go.Eng.HE.mk Bool.true (Go.Eng.HB.rows (Go.Sa.B.i64 l1))))])  (KL Go.Eng.Ex.ret [(Option.some (Go.Eng.AV.sc (Go.Eng.SV.bool Bool.false)))] [(Option.some (Go.Eng.HE.mk Bool.true (Go.Eng.HB.rows (Go.Sa.B.i64 l1))))]) (KL Go.Eng.Ex.normal [Option.none] [(Option.some (Go.Eng.HE.mk Bool.true (Go.Eng.HB.rows (Go.Sa.B.i64 l1))))]) := by kernel_rfl
theorem le_spec_l04Words_r_0 (N : Nat) {R : Type} (b1 : Bool) (n1 : Int) (l1 : List Int) (KL : Ex → List (Option AV) → Hp E → Option R) : ∀ (f : Nat), ∀ (n2 : Int), iterK (E := E) (O_spec_l04Words_r N) (fun {R} => LI (noIt) 1 21 sl_spec_l04Words_r (R := R)) J_spec_l04Words_r 1 21 0 [0, 1, 5] [4] (body Go.Proofs.Try.f113 0) f [(Option.some (Go.Eng.AV.sc (Go.Eng.SV.slc 0 Option.none b1))), (Option.some (Go.Eng.AV.sc (Go.Eng.SV.int Go.IntKind.i64 n1))), (Option.some (Go.Eng.AV.sc (Go.Eng.SV.int Go.IntKind.i64 n2)))] [(Option.some (Go.Eng.HE.mk Bool.true (Go.Eng.HB.rows (Go.Sa.B.i64 l1))))] KL = l_spec_l04Words_r_0 N b1 n1 l1 (KL Go.Eng.Ex.ret [(Option.some (Go.Eng.AV.sc (Go.Eng.SV.bool Bool.false)))] [(Option.some (Go.Eng.HE.mk Bool.true (Go.Eng.HB.rows (Go.Sa.B.i64 l1))))]) (KL Go.Eng.Ex.normal [Option.none] [(Option.some (Go.Eng.HE.mk Bool.true (Go.Eng.HB.rows (Go.Sa.B.i64 l1))))]) f n2 := by
  intro f
  induction f with
  | zero => intros; rfl
  | succ f ih =>
    intro n2
    rw [iterK_succ, se_spec_l04Words_r_0]
    exact (congrArg (fun z0 => s_spec_l04Words_r_0 N b1 n1 l1 n2 z0 (KL Go.Eng.Ex.ret [(Option.some (Go.Eng.AV.sc (Go.Eng.SV.bool Bool.false)))] [(Option.some (Go.Eng.HE.mk Bool.true (Go.Eng.HB.rows (Go.Sa.B.i64 l1))))]) (KL Go.Eng.Ex.normal [Option.none] [(Option.some (Go.Eng.HE.mk Bool.true (Go.Eng.HB.rows (Go.Sa.B.i64 l1))))])) (funext fun n2 => ih n2))
def i_spec_l04Words_r_0 (N : Nat) {R : Type} (vs : List (Option AV)) (H : Hp E) (KL : Ex → List (Option AV) → Hp E → Option R) : Option R :=
  match vs, H with
  | [(Option.some (Go.Eng.AV.sc (Go.Eng.SV.slc 0 Option.none b1))), (Option.some (Go.Eng.AV.sc (Go.Eng.SV.int Go.IntKind.i64 n1))), (Option.some (Go.Eng.AV.sc (Go.Eng.SV.int Go.IntKind.i64 n2)))], [(Option.some (Go.Eng.HE.mk Bool.true (Go.Eng.HB.rows (Go.Sa.B.i64 l1))))] => c_spec_l04Words_r_0 N b1 n1 l1 n2 (KL Go.Eng.Ex.ret [(Option.some (Go.Eng.AV.sc (Go.Eng.SV.bool Bool.false)))] [(Option.some (Go.Eng.HE.mk Bool.true (Go.Eng.HB.rows (Go.Sa.B.i64 l1))))]) (KL Go.Eng.Ex.normal [Option.none] [(Option.some (Go.Eng.HE.mk Bool.true (Go.Eng.HB.rows (Go.Sa.B.i64 l1))))])
  | _, _ => none
noncomputable def IT_spec_l04Words_r_0 (N : Nat) : Its E := addIt 0 (i_spec_l04Words_r_0 N) (noIt)
theorem IT_spec_l04Words_r_0_ok (N : Nat) : ItOk (IT_spec_l04Words_r_0 N) 1 21 sl_spec_l04Words_r (lsB Go.Proofs.Try.f113 [0]) :=
  addItB_ok (inner := []) ok (O_spec_l04Words_r_ok N) (jn_ok _ _ _) (noIt_ok) rfl (by kernel_rfl) rfl fun vs H KL r h => by
    unfold i_spec_l04Words_r_0 at h
    split at h
    · exact ⟨_, (le_spec_l04Words_r_0 N _ _ _ KL N _).trans h⟩
    · cases h
def g_spec_l04Words_r (N : Nat) {R : Type} (b : Bool) (n : Int) (l : List Int) (k : Bool → Option R) : Option R :=
  (cond ((((List.length l) : Nat) : Int) != n)
  (k Bool.false)
  (c_spec_l04Words_r_0 N b n l (0 : Int) (
    (k Bool.false)) (
    (k Bool.true))))
theorem e_spec_l04Words_r (N : Nat) {R : Type} (b : Bool) (n : Int) (l : List Int) (K : AV → Hp E → Option R) :
    runFnI (E := E) (O_spec_l04Words_r N) (IT_spec_l04Words_r_0 N) sl_spec_l04Words_r J_spec_l04Words_r Go.Proofs.Try.f113 [(Go.Eng.AV.sc (Go.Eng.SV.slc 0 Option.none b)), (Go.Eng.AV.sc (Go.Eng.SV.int Go.IntKind.i64 n))] [(Option.some (Go.Eng.HE.mk Bool.true (Go.Eng.HB.rows (Go.Sa.B.i64 l))))] K =
      g_spec_l04Words_r N b n l (fun b3 => K (Go.Eng.AV.sc (Go.Eng.SV.bool b3)) [(Option.some (Go.Eng.HE.mk Bool.true (Go.Eng.HB.rows (Go.Sa.B.i64 l))))]) := by kernel_rfl
def o_spec_l04Words_r (N : Nat) {R : Type} (args : List AV) (H : Hp E) (K : AV → Hp E → Option R) : Option R :=
  match args, H with
  | [(Go.Eng.AV.sc (Go.Eng.SV.slc 0 Option.none b)), (Go.Eng.AV.sc (Go.Eng.SV.int Go.IntKind.i64 n))], [(Option.some (Go.Eng.HE.mk Bool.true (Go.Eng.HB.rows (Go.Sa.B.i64 l))))] => g_spec_l04Words_r N b n l (fun b3 => K (Go.Eng.AV.sc (Go.Eng.SV.bool b3)) [(Option.some (Go.Eng.HE.mk Bool.true (Go.Eng.HB.rows (Go.Sa.B.i64 l))))])
  | _, _ => none
theorem o_spec_l04Words_r_ok (N : Nat) : FnOk E 113 (o_spec_l04Words_r N) := by
  intro R args H K r h
  unfold o_spec_l04Words_r at h
  dsimp only at h
  split at h
  · exact fnB_ok (ids := [0]) (top := [0]) ok (O_spec_l04Words_r_ok N) (jn_ok _ _ _) Go.Proofs.Try.func113 (by kernel_rfl) (IT := IT_spec_l04Words_r_0 N) (sl := sl_spec_l04Words_r) (J := J_spec_l04Words_r) (K := K) (H := [(Option.some (Go.Eng.HE.mk Bool.true (Go.Eng.HB.rows (Go.Sa.B.i64 _))))]) (IT_spec_l04Words_r_0_ok N) (by kernel_rfl) rfl ((e_spec_l04Words_r N _ _ _ K).trans h)
  · cases h
/-! ### loop.example/g00038/spec.l01Mod -/
abbrev sl_spec_l01Mod : SlotT := []
abbrev J_spec_l01Mod : JT := jn [] [(10, [(5, .i .i64)])] []
noncomputable def O_spec_l01Mod (N : Nat) : Orc E := noFn
theorem O_spec_l01Mod_ok (N : Nat) : OrcOk (O_spec_l01Mod N) := noFn_ok
def g_spec_l01Mod (N : Nat) {R : Type} (n : Int) (n1 : Int) (k : Int → Option R) : Option R :=
  (cond (n1 == (0 : Int))
  none
  (oK (cond (decide (((Int.tmod n n1) < (0 : Int))))
      (some (Go.IntKind.wrap Go.IntKind.i64 ((Int.tmod n n1) + n1)))
      (some (Int.tmod n n1))) fun j =>
    (k j)))
theorem e_spec_l01Mod (N : Nat) {R : Type} (n : Int) (n1 : Int) (K : AV → Hp E → Option R) :
    runFnI (E := E) (O_spec_l01Mod N) (noIt) sl_spec_l01Mod J_spec_l01Mod Go.Proofs.Try.f158 [(Go.Eng.AV.sc (Go.Eng.SV.int Go.IntKind.i64 n)), (Go.Eng.AV.sc (Go.Eng.SV.int Go.IntKind.i64 n1))] [] K =
      g_spec_l01Mod N n n1 (fun n2 => K (Go.Eng.AV.sc (Go.Eng.SV.int Go.IntKind.i64 n2)) []) := by kernel_rfl
def o_spec_l01Mod (N : Nat) {R : Type} (args : List AV) (H : Hp E) (K : AV → Hp E → Option R) : Option R :=
  match args, H with
  | [(Go.Eng.AV.sc (Go.Eng.SV.int Go.IntKind.i64 n)), (Go.Eng.AV.sc (Go.Eng.SV.int Go.IntKind.i64 n1))], [] => g_spec_l01Mod N n n1 (fun n2 => K (Go.Eng.AV.sc (Go.Eng.SV.int Go.IntKind.i64 n2)) [])
  | _, _ => none
theorem o_spec_l01Mod_ok (N : Nat) : FnOk E 158 (o_spec_l01Mod N) := by
  intro R args H K r h
  unfold o_spec_l01Mod at h
  dsimp only at h
  split at h
  · exact fnB_ok (ids := []) (top := []) ok (O_spec_l01Mod_ok N) (jn_ok _ _ _) Go.Proofs.Try.func158 (by kernel_rfl) (IT := noIt) (sl := sl_spec_l01Mod) (J := J_spec_l01Mod) (K := K) (H := []) (noIt_ok) (by kernel_rfl) rfl ((e_spec_l01Mod N _ _ K).trans h)
  · cases h
/-! ### loop.example/g00038/spec.Word -/
abbrev sl_spec_Word : SlotT := []
abbrev J_spec_Word : JT := jn [] [] []
noncomputable def O_spec_Word (N : Nat) : Orc E := addFn 158 (o_spec_l01Mod N) (noFn)
theorem O_spec_Word_ok (N : Nat) : OrcOk (O_spec_Word N) := addFn_ok (o_spec_l01Mod_ok N) (noFn_ok)
def g_spec_Word (N : Nat) {R : Type} (n : Int) (k : Int → Option R) : Option R :=
  (g_spec_l01Mod N n (4294967296 : Int) fun n1 =>
  (k n1))
theorem e_spec_Word (N : Nat) {R : Type} (n : Int) (K : AV → Hp E → Option R) :
    runFnI (E := E) (O_spec_Word N) (noIt) sl_spec_Word J_spec_Word Go.Proofs.Try.f93 [(Go.Eng.AV.sc (Go.Eng.SV.int Go.IntKind.i64 n))] [] K =
      g_spec_Word N n (fun n2 => K (Go.Eng.AV.sc (Go.Eng.SV.int Go.IntKind.i64 n2)) []) := by kernel_rfl
def o_spec_Word (N : Nat) {R : Type} (args : List AV) (H : Hp E) (K : AV → Hp E → Option R) : Option R :=
  match args, H with
  | [(Go.Eng.AV.sc (Go.Eng.SV.int Go.IntKind.i64 n))], [] => g_spec_Word N n (fun n2 => K (Go.Eng.AV.sc (Go.Eng.SV.int Go.IntKind.i64 n2)) [])
  | _, _ => none
theorem o_spec_Word_ok (N : Nat) : FnOk E 93 (o_spec_Word N) := by
  intro R args H K r h
  unfold o_spec_Word at h
  dsimp only at h
  split at h
  · exact fnB_ok (ids := []) (top := []) ok (O_spec_Word_ok N) (jn_ok _ _ _) Go.Proofs.Try.func93 (by kernel_rfl) (IT := noIt) (sl := sl_spec_Word) (J := J_spec_Word) (K := K) (H := []) (noIt_ok) (by kernel_rfl) rfl ((e_spec_Word N _ K).trans h)
  · cases h
/-! ### loop.example/g00038/spec.PutWord -/
abbrev sl_spec_PutWord : SlotT := []
abbrev J_spec_PutWord : JT := jn [] [] []
noncomputable def O_spec_PutWord (N : Nat) : Orc E := addFn 93 (o_spec_Word N) (noFn)
theorem O_spec_PutWord_ok (N : Nat) : OrcOk (O_spec_PutWord N) := addFn_ok (o_spec_Word_ok N) (noFn_ok)
def g_spec_PutWord (N : Nat) {R : Type} (n : Int) (k : ByteArray → Option R) : Option R :=
  (g_spec_Word N n fun n1 =>
  (k (Go.Eng.toBytes (Go.Eng.seg [(Go.IntKind.wrap Go.IntKind.u8 n1), (Go.IntKind.wrap Go.IntKind.u8 (Int.fdiv n1 (256 : Int))), (Go.IntKind.wrap Go.IntKind.u8 (Int.fdiv n1 (65536 : Int))), (Go.IntKind.wrap Go.IntKind.u8 (Int.fdiv n1 (16777216 : Int)))] 0 (List.length [(Go.IntKind.wrap Go.IntKind.u8 n1), (Go.IntKind.wrap Go.IntKind.u8 (Int.fdiv n1 (256 : Int))), (Go.IntKind.wrap Go.IntKind.u8 (Int.fdiv n1 (65536 : Int))), (Go.IntKind.wrap Go.IntKind.u8 (Int.fdiv n1 (16777216 : Int)))])))))
theorem e_spec_PutWord (N : Nat) {R : Type} (n : Int) (K : AV → Hp E → Option R) :
    runFnI (E := E) (O_spec_PutWord N) (noIt) sl_spec_PutWord J_spec_PutWord Go.Proofs.Try.f109 [(Go.Eng.AV.sc (Go.Eng.SV.int Go.IntKind.i64 n))] [] K =
      g_spec_PutWord N n (fun s => K (Go.Eng.AV.sc (Go.Eng.SV.str s)) []) := by kernel_rfl
def o_spec_PutWord (N : Nat) {R : Type} (args : List AV) (H : Hp E) (K : AV → Hp E → Option R) : Option R :=
  match args, H with
  | [(Go.Eng.AV.sc (Go.Eng.SV.int Go.IntKind.i64 n))], [] => g_spec_PutWord N n (fun s => K (Go.Eng.AV.sc (Go.Eng.SV.str s)) [])
  | _, _ => none
theorem o_spec_PutWord_ok (N : Nat) : FnOk E 109 (o_spec_PutWord N) := by
  intro R args H K r h
  unfold o_spec_PutWord at h
  dsimp only at h
  split at h
  · exact fnB_ok (ids := []) (top := []) ok (O_spec_PutWord_ok N) (jn_ok _ _ _) Go.Proofs.Try.func109 (by kernel_rfl) (IT := noIt) (sl := sl_spec_PutWord) (J := J_spec_PutWord) (K := K) (H := []) (noIt_ok) (by kernel_rfl) rfl ((e_spec_PutWord N _ K).trans h)
  · cases h
/-! ### loop.example/g00038/spec.l20Words -/
abbrev sl_spec_l20Words_w : SlotT := [(0, ([0, 3, 4], [3]))]
abbrev J_spec_l20Words_w : JT := jn [] [] []
noncomputable def O_spec_l20Words_w (N : Nat) : Orc E := addFn 109 (o_spec_PutWord N) (noFn)
theorem O_spec_l20Words_w_ok (N : Nat) : OrcOk (O_spec_l20Words_w N) := addFn_ok (o_spec_PutWord_ok N) (noFn_ok)
def s_spec_l20Words_w_0 (N : Nat) {R : Type} (b1 : Bool) (l1 : List Int) (s : ByteArray) (n : Int) (ag : ByteArray → Int → Option R)  (kN : ByteArray → Option R) : Option R :=
  (cond (decide ((n < (((List.length l1) : Nat) : Int))))
  (cond ((decide (((0 : Int) ≤ n))) && (decide ((n < (((List.length l1) : Nat) : Int)))))
    (elemK l1 (Int.toNat n) fun x =>
      (g_spec_PutWord N x fun s1 =>
      (cond (Nat.ble ((ByteArray.size s) + (ByteArray.size s1)) 9223372036854775807)
      (ag (s ++ s1) (Go.IntKind.wrap Go.IntKind.i64 (n + (1 : Int))))
      none)))
    none)
  (kN s))
def l_spec_l20Words_w_0 (N : Nat) {R : Type} (b1 : Bool) (l1 : List Int) (kN : ByteArray → Option R) : Nat → ByteArray → Int → Option R
  | 0, _, _ => none
  | f + 1, s, n => s_spec_l20Words_w_0 N b1 l1 s n (fun s n => l_spec_l20Words_w_0 N b1 l1 kN f s n)  kN
def c_spec_l20Words_w_0 (N : Nat) {R : Type} (b1 : Bool) (l1 : List Int) (s : ByteArray) (n : Int) (kN : ByteArray → Option R) : Option R := l_spec_l20Words_w_0 N b1 l1 kN N s n
theorem se_spec_l20Words_w_0 (N : Nat) {R : Type} (b1 : Bool) (l1 : List Int) (s : ByteArray) (n : Int) (AG : List (Option AV) → Hp E → Option R) (KL : Ex → List (Option AV) → Hp E → Option R) :
    iterStep (E := E) (O_spec_l20Words_w N) (fun {R} => LI (noIt) 1 19 sl_spec_l20Words_w (R := R)) J_spec_l20Words_w 1 19 0 [0, 3, 4] [3] (body Go.Proofs.Try.f115 0) AG KL [(Option.some (Go.Eng.AV.sc (Go.Eng.SV.slc 0 Option.none b1))), (Option.some (Go.Eng.AV.sc (Go.Eng.SV.str s))), (Option.some (Go.Eng.AV.sc (Go.Eng.SV.int Go.IntKind.i64 n)))] [(Option.some (Go.Eng.HE.mk Bool.false (Go.Eng.HB.rows (Go.Sa.B.i64 l1))))] =
      s_spec_l20Words_w_0 N b1 l1 s n (fun s n => AG [(Option.some (Go.Eng.AV.sc (Go.Eng.SV.slc 0 Option.none b1))), (Option.some (Go.Eng.AV.sc (Go.Eng.SV.str s))), (Option.some (Go.Eng.AV.sc (Go.Eng.SV.int Go.IntKind.i64 n)))] [(Option.some (Go.Eng.HE.mk Bool.false (Go.Eng.HB.rows (Go.Sa.B.i64 l1))))])  (fun s4 => KL Go.Eng.Ex.normal [(Option.some (Go.Eng.AV.sc (Go.Eng.SV.str s4)))] [(Option.some (Go.Eng.HE.mk Bool.false (Go.Eng.HB.rows (Go.Sa.B.i64 l1))))]) := by kernel_rfl
theorem le_spec_l20Words_w_0 (N : Nat) {R : Type} (b1 : Bool) (l1 : List Int) (KL : Ex → List (Option AV) → Hp E → Option R) : ∀ (f : Nat), ∀ (s : ByteArray) (n : Int), iterK (E := E) (O_spec_l20Words_w N) (fun {R} => LI (noIt) 1 19 sl_spec_l20Words_w (R := R)) J_spec_l20Words_w 1 19 0 [0, 3, 4] [3] (body Go.Proofs.Try.f115 0) f [(Option.some (Go.Eng.AV.sc (Go.Eng.SV.slc 0 Option.none b1))), (Option.some (Go.Eng.AV.sc (Go.Eng.SV.str s))), (Option.some (Go.Eng.AV.sc (Go.Eng.SV.int Go.IntKind.i64 n)))] [(Option.some (Go.Eng.HE.mk Bool.false (Go.Eng.HB.rows (Go.Sa.B.i64 l1))))] KL = l_spec_l20Words_w_0 N b1 l1 (fun s4 => KL Go.Eng.Ex.normal [(Option.some (Go.Eng.AV.sc (Go.Eng.SV.str s4)))] [(Option.some (Go.Eng.HE.mk Bool.false (Go.Eng.HB.rows (Go.Sa.B.i64 l1))))]) f s n := by
  intro f
  induction f with
  | zero => intros; rfl
  | succ f ih =>
    intro s n
    rw [iterK_succ, se_spec_l20Words_w_0]
    exact (congrArg (fun z0 => s_spec_l20Words_w_0 N b1 l1 s n z0 (fun s4 => KL Go.Eng.Ex.normal [(Option.some (Go.Eng.AV.sc (Go.Eng.SV.str s4)))] [(Option.some (Go.Eng.HE.mk Bool.false (Go.Eng.HB.rows (Go.Sa.B.i64 l1))))])) (funext fun s => funext fun n => ih s n))
def i_spec_l20Words_w_0 (N : Nat) {R : Type} (vs : List (Option AV)) (H : Hp E) (KL : Ex → List (Option AV) → Hp E → Option R) : Option R :=
  match vs, H with
  | [(Option.some (Go.Eng.AV.sc (Go.Eng.SV.slc 0 Option.none b1))), (Option.some (Go.Eng.AV.sc (Go.Eng.SV.str s))), (Option.some (Go.Eng.AV.sc (Go.Eng.SV.int Go.IntKind.i64 n)))], [(Option.some (Go.Eng.HE.mk Bool.false (Go.Eng.HB.rows (Go.Sa.B.i64 l1))))] => c_spec_l20Words_w_0 N b1 l1 s n (fun s5 => KL Go.Eng.Ex.normal [(Option.some (Go.Eng.AV.sc (Go.Eng.SV.str s5)))] [(Option.some (Go.Eng.HE.mk Bool.false (Go.Eng.HB.rows (Go.Sa.B.i64 l1))))])
  | _, _ => none
noncomputable def IT_spec_l20Words_w_0 (N : Nat) : Its E := addIt 0 (i_spec_l20Words_w_0 N) (noIt)
theorem IT_spec_l20Words_w_0_ok (N : Nat) : ItOk (IT_spec_l20Words_w_0 N) 1 19 sl_spec_l20Words_w (lsB Go.Proofs.Try.f115 [0]) :=
  addItB_ok (inner := []) ok (O_spec_l20Words_w_ok N) (jn_ok _ _ _) (noIt_ok) rfl (by kernel_rfl) rfl fun vs H KL r h => by
    unfold i_spec_l20Words_w_0 at h
    split at h
    · exact ⟨_, (le_spec_l20Words_w_0 N _ _ KL N _ _).trans h⟩
    · cases h
def g_spec_l20Words_w (N : Nat) {R : Type} (b : Bool) (l : List Int) (k : ByteArray → Option R) : Option R :=
  (c_spec_l20Words_w_0 N b l (ByteArray.mk (List.toArray [])) (0 : Int) fun s2 =>
  (k s2))
theorem e_spec_l20Words_w (N : Nat) {R : Type} (b : Bool) (l : List Int) (K : AV → Hp E → Option R) :
    runFnI (E := E) (O_spec_l20Words_w N) (IT_spec_l20Words_w_0 N) sl_spec_l20Words_w J_spec_l20Words_w Go.Proofs.Try.f115 [(Go.Eng.AV.sc (Go.Eng.SV.slc 0 Option.none b))] [(Option.some (Go.Eng.HE.mk Bool.false (Go.Eng.HB.rows (Go.Sa.B.i64 l))))] K =
      g_spec_l20Words_w N b l (fun s3 => K (Go.Eng.AV.sc (Go.Eng.SV.str s3)) [(Option.some (Go.Eng.HE.mk Bool.false (Go.Eng.HB.rows (Go.Sa.B.i64 l))))]) := by kernel_rfl
def o_spec_l20Words_w (N : Nat) {R : Type} (args : List AV) (H : Hp E) (K : AV → Hp E → Option R) : Option R :=
  match args, H with
  | [(Go.Eng.AV.sc (Go.Eng.SV.slc 0 Option.none b))], [(Option.some (Go.Eng.HE.mk Bool.false (Go.Eng.HB.rows (Go.Sa.B.i64 l))))] => g_spec_l20Words_w N b l (fun s3 => K (Go.Eng.AV.sc (Go.Eng.SV.str s3)) [(Option.some (Go.Eng.HE.mk Bool.false (Go.Eng.HB.rows (Go.Sa.B.i64 l))))])
  | _, _ => none
theorem o_spec_l20Words_w_ok (N : Nat) : FnOk E 115 (o_spec_l20Words_w N) := by
  intro R args H K r h
  unfold o_spec_l20Words_w at h
  dsimp only at h
  split at h
  · exact fnB_ok (ids := [0]) (top := [0]) ok (O_spec_l20Words_w_ok N) (jn_ok _ _ _) Go.Proofs.Try.func115 (by kernel_rfl) (IT := IT_spec_l20Words_w_0 N) (sl := sl_spec_l20Words_w) (J := J_spec_l20Words_w) (K := K) (H := [(Option.some (Go.Eng.HE.mk Bool.false (Go.Eng.HB.rows (Go.Sa.B.i64 _))))]) (IT_spec_l20Words_w_0_ok N) (by kernel_rfl) rfl ((e_spec_l20Words_w N _ _ K).trans h)
  · cases h
/-! ### loop.example/g00038/spec.Mix -/
abbrev sl_spec_Mix : SlotT := [(0, ([0, 5, 6], [5]))]
abbrev J_spec_Mix : JT := jn [] [] []
noncomputable def O_spec_Mix (N : Nat) : Orc E := addFn 158 (o_spec_l01Mod N) (noFn)
theorem O_spec_Mix_ok (N : Nat) : OrcOk (O_spec_Mix N) := addFn_ok (o_spec_l01Mod_ok N) (noFn_ok)
def s_spec_Mix_0 (N : Nat) {R : Type} (s1 : ByteArray) (n2 : Int) (n3 : Int) (ag : Int → Int → Option R)  (kN : Int → Option R) : Option R :=
  (cond (decide ((n3 < (((ByteArray.size s1) : Nat) : Int))))
  (cond ((decide (((0 : Int) ≤ n3))) && (decide ((n3 < (((ByteArray.size s1) : Nat) : Int)))))
    (ag (Int.tmod (Go.IntKind.wrap Go.IntKind.i64 ((Go.IntKind.wrap Go.IntKind.i64 ((Go.IntKind.wrap Go.IntKind.i64 (n2 * (65599 : Int))) + (Go.IntKind.wrap Go.IntKind.i64 (Go.Eng.bt s1 (Int.toNat n3))))) + (1 : Int))) (2147483629 : Int)) (Go.IntKind.wrap Go.IntKind.i64 (n3 + (1 : Int))))
    none)
  (kN n2))
def l_spec_Mix_0 (N : Nat) {R : Type} (s1 : ByteArray) (kN : Int → Option R) : Nat → Int → Int → Option R
  | 0, _, _ => none
  | f + 1, n2, n3 => s_spec_Mix_0 N s1 n2 n3 (fun n2 n3 => l_spec_Mix_0 N s1 kN f n2 n3)  kN
def c_spec_Mix_0 (N : Nat) {R : Type} (s1 : ByteArray) (n2 : Int) (n3 : Int) (kN : Int → Option R) : Option R := l_spec_Mix_0 N s1 kN N n2 n3
theorem se_spec_Mix_0 (N : Nat) {R : Type} (s1 : ByteArray) (n2 : Int) (n3 : Int) (AG : List (Option AV) → Hp E → Option R) (KL : Ex → List (Option AV) → Hp E → Option R) :
    iterStep (E := E) (O_spec_Mix N) (fun {R} => LI (noIt) 0 32 sl_spec_Mix (R := R)) J_spec_Mix 0 32 0 [0, 5, 6] [5] (body Go.Proofs.Try.f116 0) AG KL [(Option.some (Go.Eng.AV.sc (Go.Eng.SV.str s1))), (Option.some (Go.Eng.AV.sc (Go.Eng.SV.int Go.IntKind.i64 n2))), (Option.some (Go.Eng.AV.sc (Go.Eng.SV.int Go.IntKind.i64 n3)))] [] =
      s_spec_Mix_0 N s1 n2 n3 (fun n2 n3 => AG [(Option.some (Go.Eng.AV.sc (Go.Eng.SV.str s1))), (Option.some (Go.Eng.AV.sc (Go.Eng.SV.int Go.IntKind.i64 n2))), (Option.some (Go.Eng.AV.sc (Go.Eng.SV.int Go.IntKind.i64 n3)))] [])  (fun n6 => KL Go.Eng.Ex.normal [(Option.some (Go.Eng.AV.sc (Go.Eng.SV.int Go.IntKind.i64 n6)))] []) := by kernel_rfl
theorem le_spec_Mix_0 (N : Nat) {R : Type} (s1 : ByteArray) (KL : Ex → List (Option AV) → Hp E → Option R) : ∀ (f : Nat), ∀ (n2 : Int) (n3 : Int), iterK (E := E) (O_spec_Mix N) (fun {R} => LI (noIt) 0 32 sl_spec_Mix (R := R)) J_spec_Mix 0 32 0 [0, 5, 6] [5] (body Go.Proofs.Try.f116 0) f [(Option.some (Go.Eng.AV.sc (Go.Eng.SV.str s1))), (Option.some (Go.Eng.AV.sc (Go.Eng.SV.int Go.IntKind.i64 n2))), (Option.some (Go.Eng.AV.sc (Go.Eng.SV.int Go.IntKind.i64 n3)))] [] KL = l_spec_Mix_0 N s1 (fun n6 => KL Go.Eng.Ex.normal [(Option.some (Go.Eng.AV.sc (Go.Eng.SV.int Go.IntKind.i64 n6)))] []) f n2 n3 := by
  intro f
  induction f with
  | zero => intros; rfl
  | succ f ih =>
    intro n2 n3
    rw [iterK_succ, se_spec_Mix_0]
    exact (congrArg (fun z0 => s_spec_Mix_0 N s1 n2 n3 z0 (fun n6 => KL Go.Eng.Ex.normal [(Option.some (Go.Eng.AV.sc (Go.Eng.SV.int Go.IntKind.i64 n6)))] [])) (funext fun n2 => funext fun n3 => ih n2 n3))
def i_spec_Mix_0 (N : Nat) {R : Type} (vs : List (Option AV)) (H : Hp E) (KL : Ex → List (Option AV) → Hp E → Option R) : Option R :=
  match vs, H with
  | [(Option.some (Go.Eng.AV.sc (Go.Eng.SV.str s1))), (Option.some (Go.Eng.AV.sc (Go.Eng.SV.int Go.IntKind.i64 n2))), (Option.some (Go.Eng.AV.sc (Go.Eng.SV.int Go.IntKind.i64 n3)))], [] => c_spec_Mix_0 N s1 n2 n3 (fun n7 => KL Go.Eng.Ex.normal [(Option.some (Go.Eng.AV.sc (Go.Eng.SV.int Go.IntKind.i64 n7)))] [])
  | _, _ => none
noncomputable def IT_spec_Mix_0 (N : Nat) : Its E := addIt 0 (i_spec_Mix_0 N) (noIt)
theorem IT_spec_Mix_0_ok (N : Nat) : ItOk (IT_spec_Mix_0 N) 0 32 sl_spec_Mix (lsB Go.Proofs.Try.f116 [0]) :=
  addItB_ok (inner := []) ok (O_spec_Mix_ok N) (jn_ok _ _ _) (noIt_ok) rfl (by kernel_rfl) rfl fun vs H KL r h => by
    unfold i_spec_Mix_0 at h
    split at h
    · exact ⟨_, (le_spec_Mix_0 N _ KL N _ _).trans h⟩
    · cases h
def g_spec_Mix (N : Nat) {R : Type} (s : ByteArray) (n : Int) (k : Int → Option R) : Option R :=
  (cond (decide (((((ByteArray.size s) : Nat) : Int) > (65536 : Int))))
  (k (0 : Int))
  (g_spec_l01Mod N n (2147483629 : Int) fun n1 =>
    (c_spec_Mix_0 N s (Go.IntKind.wrap Go.IntKind.i64 (n1 + (1 : Int))) (0 : Int) fun n4 =>
    (k (Int.tmod (Go.IntKind.wrap Go.IntKind.i64 ((Go.IntKind.wrap Go.IntKind.i64 (n4 * (40503 : Int))) + (77 : Int))) (2147483629 : Int))))))
theorem e_spec_Mix (N : Nat) {R : Type} (s : ByteArray) (n : Int) (K : AV → Hp E → Option R) :
    runFnI (E := E) (O_spec_Mix N) (IT_spec_Mix_0 N) sl_spec_Mix J_spec_Mix Go.Proofs.Try.f116 [(Go.Eng.AV.sc (Go.Eng.SV.str s)), (Go.Eng.AV.sc (Go.Eng.SV.int Go.IntKind.i64 n))] [] K =
      g_spec_Mix N s n (fun n5 => K (Go.Eng.AV.sc (Go.Eng.SV.int Go.IntKind.i64 n5)) []) := by kernel_rfl
def o_spec_Mix (N : Nat) {R : Type} (args : List AV) (H : Hp E) (K : AV → Hp E → Option R) : Option R :=
  match args, H with
  | [(Go.Eng.AV.sc (Go.Eng.SV.str s)), (Go.Eng.AV.sc (Go.Eng.SV.int Go.IntKind.i64 n))], [] => g_spec_Mix N s n (fun n5 => K (Go.Eng.AV.sc (Go.Eng.SV.int Go.IntKind.i64 n5)) [])
  | _, _ => none
theorem o_spec_Mix_ok (N : Nat) : FnOk E 116 (o_spec_Mix N) := by
  intro R args H K r h
  unfold o_spec_Mix at h
  dsimp only at h
  split at h
  · exact fnB_ok (ids := [0]) (top := [0]) ok (O_spec_Mix_ok N) (jn_ok _ _ _) Go.Proofs.Try.func116 (by kernel_rfl) (IT := IT_spec_Mix_0 N) (sl := sl_spec_Mix) (J := J_spec_Mix) (K := K) (H := []) (IT_spec_Mix_0_ok N) (by kernel_rfl) rfl ((e_spec_Mix N _ _ K).trans h)
  · cases h
/-! ### loop.example/g00038/spec.MakeBoot -/
abbrev sl_spec_MakeBoot_w : SlotT := [(0, ([8], [8]))]
abbrev J_spec_MakeBoot_w : JT := jn [(1, [(41, .b)])] [] []
noncomputable def O_spec_MakeBoot_w (N : Nat) : Orc E := addFn 116 (o_spec_Mix N) (addFn 115 (o_spec_l20Words_w N) (addFn 114 (o_spec_l01IsWord N) (addFn 113 (o_spec_l04Words_r N) (noFn))))
theorem O_spec_MakeBoot_w_ok (N : Nat) : OrcOk (O_spec_MakeBoot_w N) := addFn_ok (o_spec_Mix_ok N) (addFn_ok (o_spec_l20Words_w_ok N) (addFn_ok (o_spec_l01IsWord_ok N) (addFn_ok (o_spec_l04Words_r_ok N) (noFn_ok))))
def s_spec_MakeBoot_w_0 (N : Nat) {R : Type} (l1 : List Int) (s2 : ByteArray) (ag : ByteArray → Option R)  (kN : ByteArray → Option R) : Option R :=
  (cond ((Int.tmod (((ByteArray.size s2) : Nat) : Int) (64 : Int)) != (0 : Int))
  (cond (Nat.ble ((ByteArray.size s2) + 1) 9223372036854775807)
    (ag (s2 ++ (ByteArray.mk (List.toArray [(0 : UInt8)]))))
    none)
  (kN s2))
def l_spec_MakeBoot_w_0 (N : Nat) {R : Type} (l1 : List Int) (kN : ByteArray → Option R) : Nat → ByteArray → Option R
  | 0, _ => none
  | f + 1, s2 => s_spec_MakeBoot_w_0 N l1 s2 (fun s2 => l_spec_MakeBoot_w_0 N l1 kN f s2)  kN
def c_spec_MakeBoot_w_0 (N : Nat) {R : Type} (l1 : List Int) (s2 : ByteArray) (kN : ByteArray → Option R) : Option R := l_spec_MakeBoot_w_0 N l1 kN N s2
theorem se_spec_MakeBoot_w_0 (N : Nat) {R : Type} (l1 : List Int) (s2 : ByteArray) (AG : List (Option AV) → Hp E → Option R) (KL : Ex → List (Option AV) → Hp E → Option R) :
    iterStep (E := E) (O_spec_MakeBoot_w N) (fun {R} => LI (noIt) 1 69 sl_spec_MakeBoot_w (R := R)) J_spec_MakeBoot_w 1 69 0 [8] [8] (body Go.Proofs.Try.f45 0) AG KL [(Option.some (Go.Eng.AV.sc (Go.Eng.SV.str s2)))] [(Option.some (Go.Eng.HE.mk Bool.false (Go.Eng.HB.rows (Go.Sa.B.i64 l1))))] =
      s_spec_MakeBoot_w_0 N l1 s2 (fun s2 => AG [(Option.some (Go.Eng.AV.sc (Go.Eng.SV.str s2)))] [(Option.some (Go.Eng.HE.mk Bool.false (Go.Eng.HB.rows (Go.Sa.B.i64 l1))))])  (fun s5 => KL Go.Eng.Ex.normal [(Option.some (Go.Eng.AV.sc (Go.Eng.SV.str s5)))] [(Option.some (Go.Eng.HE.mk Bool.false (Go.Eng.HB.rows (Go.Sa.B.i64 l1))))]) := by kernel_rfl
theorem le_spec_MakeBoot_w_0 (N : Nat) {R : Type} (l1 : List Int) (KL : Ex → List (Option AV) → Hp E → Option R) : ∀ (f : Nat), ∀ (s2 : ByteArray), iterK (E := E) (O_spec_MakeBoot_w N) (fun {R} => LI (noIt) 1 69 sl_spec_MakeBoot_w (R := R)) J_spec_MakeBoot_w 1 69 0 [8] [8] (body Go.Proofs.Try.f45 0) f [(Option.some (Go.Eng.AV.sc (Go.Eng.SV.str s2)))] [(Option.some (Go.Eng.HE.mk Bool.false (Go.Eng.HB.rows (Go.Sa.B.i64 l1))))] KL = l_spec_MakeBoot_w_0 N l1 (fun s5 => KL Go.Eng.Ex.normal [(Option.some (Go.Eng.AV.sc (Go.Eng.SV.str s5)))] [(Option.some (Go.Eng.HE.mk Bool.false (Go.Eng.HB.rows (Go.Sa.B.i64 l1))))]) f s2 := by
  intro f
  induction f with
  | zero => intros; rfl
  | succ f ih =>
    intro s2
    rw [iterK_succ, se_spec_MakeBoot_w_0]
    exact (congrArg (fun z0 => s_spec_MakeBoot_w_0 N l1 s2 z0 (fun s5 => KL Go.Eng.Ex.normal [(Option.some (Go.Eng.AV.sc (Go.Eng.SV.str s5)))] [(Option.some (Go.Eng.HE.mk Bool.false (Go.Eng.HB.rows (Go.Sa.B.i64 l1))))])) (funext fun s2 => ih s2))
def i_spec_MakeBoot_w_0 (N : Nat) {R : Type} (vs : List (Option AV)) (H : Hp E) (KL : Ex → List (Option AV) → Hp E → Option R) : Option R :=
  match vs, H with
  | [(Option.some (Go.Eng.AV.sc (Go.Eng.SV.str s2)))], [(Option.some (Go.Eng.HE.mk Bool.false (Go.Eng.HB.rows (Go.Sa.B.i64 l1))))] => c_spec_MakeBoot_w_0 N l1 s2 (fun s6 => KL Go.Eng.Ex.normal [(Option.some (Go.Eng.AV.sc (Go.Eng.SV.str s6)))] [(Option.some (Go.Eng.HE.mk Bool.false (Go.Eng.HB.rows (Go.Sa.B.i64 l1))))])
  | _, _ => none
noncomputable def IT_spec_MakeBoot_w_0 (N : Nat) : Its E := addIt 0 (i_spec_MakeBoot_w_0 N) (noIt)
theorem IT_spec_MakeBoot_w_0_ok (N : Nat) : ItOk (IT_spec_MakeBoot_w_0 N) 1 69 sl_spec_MakeBoot_w (lsB Go.Proofs.Try.f45 [0]) :=
  addItB_ok (inner := []) ok (O_spec_MakeBoot_w_ok N) (jn_ok _ _ _) (noIt_ok) rfl (by kernel_rfl) rfl fun vs H KL r h => by
    unfold i_spec_MakeBoot_w_0 at h
    split at h
    · exact ⟨_, (le_spec_MakeBoot_w_0 N _ KL N _).trans h⟩
    · cases h
def g_spec_MakeBoot_w (N : Nat) {R : Type} (b : Bool) (n : Int) (n1 : Int) (l : List Int) (k : ByteArray → Option R) : Option R :=
  (oK (cond (decide (((((List.length l) : Nat) : Int) < (1 : Int))))
    (some Bool.true)
    (cond (decide (((((List.length l) : Nat) : Int) > (1000 : Int))))
      (some Bool.true)
      (g_spec_l04Words_r N b (((List.length l) : Nat) : Int) l fun b1 =>
        (cond (!b1)
        (some Bool.true)
        (cond (decide ((n < (0 : Int))))
          (some Bool.true)
          (cond (decide ((n > (65535 : Int))))
            (some Bool.true)
            (cond ((Int.tmod n (4 : Int)) != (0 : Int))
              (some Bool.true)
              (g_spec_l01IsWord N n1 fun b2 =>
                (some (!b2)))))))))) fun j =>
  (cond j
  (k (ByteArray.mk (List.toArray [])))
  (g_spec_l20Words_w N b l fun s =>
    (g_spec_Mix N s (71 : Int) fun n2 =>
    (g_spec_l20Words_w N Bool.false [n, n1, (((List.length l) : Nat) : Int), n2] fun s1 =>
    (cond (Nat.ble (4 + (ByteArray.size s1)) 9223372036854775807)
    (cond (((decide (((Go.IntKind.wrap Go.IntKind.i64 ((64 : Int) - (((ByteArray.size ((ByteArray.mk (List.toArray [(66 : UInt8), (79 : UInt8), (79 : UInt8), (84 : UInt8)])) ++ s1)) : Nat) : Int))) = (Go.IntKind.wrap Go.IntKind.i64 ((64 : Int) - (((ByteArray.size ((ByteArray.mk (List.toArray [(66 : UInt8), (79 : UInt8), (79 : UInt8), (84 : UInt8)])) ++ s1)) : Nat) : Int)))))) && (decide (((0 : Int) ≤ (Go.IntKind.wrap Go.IntKind.i64 ((64 : Int) - (((ByteArray.size ((ByteArray.mk (List.toArray [(66 : UInt8), (79 : UInt8), (79 : UInt8), (84 : UInt8)])) ++ s1)) : Nat) : Int))))))) && (Go.Eng.roomOk (Int.toNat (Go.IntKind.wrap Go.IntKind.i64 ((64 : Int) - (((ByteArray.size ((ByteArray.mk (List.toArray [(66 : UInt8), (79 : UInt8), (79 : UInt8), (84 : UInt8)])) ++ s1)) : Nat) : Int)))) 1))
      (cond (Nat.ble (0 + (List.length (List.replicate (Int.toNat (Go.IntKind.wrap Go.IntKind.i64 ((64 : Int) - (((ByteArray.size ((ByteArray.mk (List.toArray [(66 : UInt8), (79 : UInt8), (79 : UInt8), (84 : UInt8)])) ++ s1)) : Nat) : Int)))) (0 : Int)))) (List.length (List.replicate (Int.toNat (Go.IntKind.wrap Go.IntKind.i64 ((64 : Int) - (((ByteArray.size ((ByteArray.mk (List.toArray [(66 : UInt8), (79 : UInt8), (79 : UInt8), (84 : UInt8)])) ++ s1)) : Nat) : Int)))) (0 : Int))))
        (cond (Nat.ble ((ByteArray.size ((ByteArray.mk (List.toArray [(66 : UInt8), (79 : UInt8), (79 : UInt8), (84 : UInt8)])) ++ s1)) + (ByteArray.size (Go.Eng.toBytes (Go.Eng.seg (List.replicate (Int.toNat (Go.IntKind.wrap Go.IntKind.i64 ((64 : Int) - (((ByteArray.size ((ByteArray.mk (List.toArray [(66 : UInt8), (79 : UInt8), (79 : UInt8), (84 : UInt8)])) ++ s1)) : Nat) : Int)))) (0 : Int)) 0 (List.length (List.replicate (Int.toNat (Go.IntKind.wrap Go.IntKind.i64 ((64 : Int) - (((ByteArray.size ((ByteArray.mk (List.toArray [(66 : UInt8), (79 : UInt8), (79 : UInt8), (84 : UInt8)])) ++ s1)) : Nat) : Int)))) (0 : Int))))))) 9223372036854775807)
          (cond (Nat.ble ((ByteArray.size (((ByteArray.mk (List.toArray [(66 : UInt8), (79 : UInt8), (79 : UInt8), (84 : UInt8)])) ++ s1) ++ (Go.Eng.toBytes (Go.Eng.seg (List.replicate (Int.toNat (Go.IntKind.wrap Go.IntKind.i64 ((64 : Int) - (((ByteArray.size ((ByteArray.mk (List.toArray [(66 : UInt8), (79 : UInt8), (79 : UInt8), (84 : UInt8)])) ++ s1)) : Nat) : Int)))) (0 : Int)) 0 (List.length (List.replicate (Int.toNat (Go.IntKind.wrap Go.IntKind.i64 ((64 : Int) - (((ByteArray.size ((ByteArray.mk (List.toArray [(66 : UInt8), (79 : UInt8), (79 : UInt8), (84 : UInt8)])) ++ s1)) : Nat) : Int)))) (0 : Int))))))) + (ByteArray.size s)) 9223372036854775807)
            (c_spec_MakeBoot_w_0 N l ((((ByteArray.mk (List.toArray [(66 : UInt8), (79 : UInt8), (79 : UInt8), (84 : UInt8)])) ++ s1) ++ (Go.Eng.toBytes (Go.Eng.seg (List.replicate (Int.toNat (Go.IntKind.wrap Go.IntKind.i64 ((64 : Int) - (((ByteArray.size ((ByteArray.mk (List.toArray [(66 : UInt8), (79 : UInt8), (79 : UInt8), (84 : UInt8)])) ++ s1)) : Nat) : Int)))) (0 : Int)) 0 (List.length (List.replicate (Int.toNat (Go.IntKind.wrap Go.IntKind.i64 ((64 : Int) - (((ByteArray.size ((ByteArray.mk (List.toArray [(66 : UInt8), (79 : UInt8), (79 : UInt8), (84 : UInt8)])) ++ s1)) : Nat) : Int)))) (0 : Int)))))) ++ s) fun s3 =>
              (k s3))
            none)
          none)
        none)
      none)
    none))))))
theorem e_spec_MakeBoot_w (N : Nat) {R : Type} (b : Bool) (n : Int) (n1 : Int) (l : List Int) (K : AV → Hp E → Option R) :
    runFnI (E := E) (O_spec_MakeBoot_w N) (IT_spec_MakeBoot_w_0 N) sl_spec_MakeBoot_w J_spec_MakeBoot_w Go.Proofs.Try.f45 [(Go.Eng.AV.sc (Go.Eng.SV.slc 0 Option.none b)), (Go.Eng.AV.sc (Go.Eng.SV.int Go.IntKind.i64 n)), (Go.Eng.AV.sc (Go.Eng.SV.int Go.IntKind.i64 n1))] [(Option.some (Go.Eng.HE.mk Bool.false (Go.Eng.HB.rows (Go.Sa.B.i64 l))))] K =
      g_spec_MakeBoot_w N b n n1 l (fun s4 => K (Go.Eng.AV.sc (Go.Eng.SV.str s4)) [(Option.some (Go.Eng.HE.mk Bool.false (Go.Eng.HB.rows (Go.Sa.B.i64 l))))]) := by kernel_rfl
def o_spec_MakeBoot_w (N : Nat) {R : Type} (args : List AV) (H : Hp E) (K : AV → Hp E → Option R) : Option R :=
  match args, H with
  | [(Go.Eng.AV.sc (Go.Eng.SV.slc 0 Option.none b)), (Go.Eng.AV.sc (Go.Eng.SV.int Go.IntKind.i64 n)), (Go.Eng.AV.sc (Go.Eng.SV.int Go.IntKind.i64 n1))], [(Option.some (Go.Eng.HE.mk Bool.false (Go.Eng.HB.rows (Go.Sa.B.i64 l))))] => g_spec_MakeBoot_w N b n n1 l (fun s4 => K (Go.Eng.AV.sc (Go.Eng.SV.str s4)) [(Option.some (Go.Eng.HE.mk Bool.false (Go.Eng.HB.rows (Go.Sa.B.i64 l))))])
  | _, _ => none
theorem o_spec_MakeBoot_w_ok (N : Nat) : FnOk E 45 (o_spec_MakeBoot_w N) := by
  intro R args H K r h
  unfold o_spec_MakeBoot_w at h
  dsimp only at h
  split at h
  · exact fnB_ok (ids := [0]) (top := [0]) ok (O_spec_MakeBoot_w_ok N) (jn_ok _ _ _) Go.Proofs.Try.func45 (by kernel_rfl) (IT := IT_spec_MakeBoot_w_0 N) (sl := sl_spec_MakeBoot_w) (J := J_spec_MakeBoot_w) (K := K) (H := [(Option.some (Go.Eng.HE.mk Bool.false (Go.Eng.HB.rows (Go.Sa.B.i64 _))))]) (IT_spec_MakeBoot_w_0_ok N) (by kernel_rfl) rfl ((e_spec_MakeBoot_w N _ _ _ _ K).trans h)
  · cases h
/-! ### loop.example/g00038/impl.yin -/
abbrev sl_impl_yin : SlotT := []
abbrev J_impl_yin : JT := jn [(1, [(6, .b)])] [] []
noncomputable def O_impl_yin (N : Nat) : Orc E := noFn
theorem O_impl_yin_ok (N : Nat) : OrcOk (O_impl_yin N) := noFn_ok
def g_impl_yin (N : Nat) {R : Type} (n : Int) (n1 : Int) (n2 : Int) (k : Bool → Option R) : Option R :=
  (oK (cond (decide ((n ≥ n1)))
    (some (decide ((n ≤ n2))))
    (some Bool.false)) fun j =>
  (k j))
theorem e_impl_yin (N : Nat) {R : Type} (n : Int) (n1 : Int) (n2 : Int) (K : AV → Hp E → Option R) :
    runFnI (E := E) (O_impl_yin N) (noIt) sl_impl_yin J_impl_yin Go.Proofs.Try.f96 [(Go.Eng.AV.sc (Go.Eng.SV.int Go.IntKind.i64 n)), (Go.Eng.AV.sc (Go.Eng.SV.int Go.IntKind.i64 n1)), (Go.Eng.AV.sc (Go.Eng.SV.int Go.IntKind.i64 n2))] [] K =
      g_impl_yin N n n1 n2 (fun b => K (Go.Eng.AV.sc (Go.Eng.SV.bool b)) []) := by kernel_rfl
def o_impl_yin (N : Nat) {R : Type} (args : List AV) (H : Hp E) (K : AV → Hp E → Option R) : Option R :=
  match args, H with
  | [(Go.Eng.AV.sc (Go.Eng.SV.int Go.IntKind.i64 n)), (Go.Eng.AV.sc (Go.Eng.SV.int Go.IntKind.i64 n1)), (Go.Eng.AV.sc (Go.Eng.SV.int Go.IntKind.i64 n2))], [] => g_impl_yin N n n1 n2 (fun b => K (Go.Eng.AV.sc (Go.Eng.SV.bool b)) [])
  | _, _ => none
theorem o_impl_yin_ok (N : Nat) : FnOk E 96 (o_impl_yin N) := by
  intro R args H K r h
  unfold o_impl_yin at h
  dsimp only at h
  split at h
  · exact fnB_ok (ids := []) (top := []) ok (O_impl_yin_ok N) (jn_ok _ _ _) Go.Proofs.Try.func96 (by kernel_rfl) (IT := noIt) (sl := sl_impl_yin) (J := J_impl_yin) (K := K) (H := []) (noIt_ok) (by kernel_rfl) rfl ((e_impl_yin N _ _ _ K).trans h)
  · cases h
/-! ### loop.example/g00038/impl.yisWord -/
abbrev sl_impl_yisWord : SlotT := []
abbrev J_impl_yisWord : JT := jn [(1, [(2, .b)])] [] []
noncomputable def O_impl_yisWord (N : Nat) : Orc E := noFn
theorem O_impl_yisWord_ok (N : Nat) : OrcOk (O_impl_yisWord N) := noFn_ok
def g_impl_yisWord (N : Nat) {R : Type} (n : Int) (k : Bool → Option R) : Option R :=
  (oK (cond (decide ((n ≥ (0 : Int))))
    (some (decide ((n < (4294967296 : Int)))))
    (some Bool.false)) fun j =>
  (k j))
theorem e_impl_yisWord (N : Nat) {R : Type} (n : Int) (K : AV → Hp E → Option R) :
    runFnI (E := E) (O_impl_yisWord N) (noIt) sl_impl_yisWord J_impl_yisWord Go.Proofs.Try.f117 [(Go.Eng.AV.sc (Go.Eng.SV.int Go.IntKind.i64 n))] [] K =
      g_impl_yisWord N n (fun b => K (Go.Eng.AV.sc (Go.Eng.SV.bool b)) []) := by kernel_rfl
def o_impl_yisWord (N : Nat) {R : Type} (args : List AV) (H : Hp E) (K : AV → Hp E → Option R) : Option R :=
  match args, H with
  | [(Go.Eng.AV.sc (Go.Eng.SV.int Go.IntKind.i64 n))], [] => g_impl_yisWord N n (fun b => K (Go.Eng.AV.sc (Go.Eng.SV.bool b)) [])
  | _, _ => none
theorem o_impl_yisWord_ok (N : Nat) : FnOk E 117 (o_impl_yisWord N) := by
  intro R args H K r h
  unfold o_impl_yisWord at h
  dsimp only at h
  split at h
  · exact fnB_ok (ids := []) (top := []) ok (O_impl_yisWord_ok N) (jn_ok _ _ _) Go.Proofs.Try.func117 (by kernel_rfl) (IT := noIt) (sl := sl_impl_yisWord) (J := J_impl_yisWord) (K := K) (H := []) (noIt_ok) (by kernel_rfl) rfl ((e_impl_yisWord N _ K).trans h)
  · cases h
/-! ### loop.example/g00038/impl.MakeBoot$1 -/
abbrev sl_impl_MakeBoot_1 : SlotT := []
abbrev J_impl_MakeBoot_1 : JT := jn [] [] []
noncomputable def O_impl_MakeBoot_1 (N : Nat) : Orc E := addFn 117 (o_impl_yisWord N) (noFn)
theorem O_impl_MakeBoot_1_ok (N : Nat) : OrcOk (O_impl_MakeBoot_1 N) := addFn_ok (o_impl_yisWord_ok N) (noFn_ok)
def g_impl_MakeBoot_1 (N : Nat) {R : Type} (n : Int) (k : Bool → Option R) : Option R :=
  (g_impl_yisWord N n fun b =>
  (k (!b)))
theorem e_impl_MakeBoot_1 (N : Nat) {R : Type} (n : Int) (K : AV → Hp E → Option R) :
    runFnI (E := E) (O_impl_MakeBoot_1 N) (noIt) sl_impl_MakeBoot_1 J_impl_MakeBoot_1 Go.Proofs.Try.f119 [(Go.Eng.AV.sc (Go.Eng.SV.int Go.IntKind.i64 n))] [] K =
      g_impl_MakeBoot_1 N n (fun b1 => K (Go.Eng.AV.sc (Go.Eng.SV.bool b1)) []) := by kernel_rfl
def o_impl_MakeBoot_1 (N : Nat) {R : Type} (args : List AV) (H : Hp E) (K : AV → Hp E → Option R) : Option R :=
  match args, H with
  | [(Go.Eng.AV.sc (Go.Eng.SV.int Go.IntKind.i64 n))], [] => g_impl_MakeBoot_1 N n (fun b1 => K (Go.Eng.AV.sc (Go.Eng.SV.bool b1)) [])
  | _, _ => none
theorem o_impl_MakeBoot_1_ok (N : Nat) : FnOk E 119 (o_impl_MakeBoot_1 N) := by
  intro R args H K r h
  unfold o_impl_MakeBoot_1 at h
  dsimp only at h
  split at h
  · exact fnB_ok (ids := []) (top := []) ok (O_impl_MakeBoot_1_ok N) (jn_ok _ _ _) Go.Proofs.Try.func119 (by kernel_rfl) (IT := noIt) (sl := sl_impl_MakeBoot_1) (J := J_impl_MakeBoot_1) (K := K) (H := []) (noIt_ok) (by kernel_rfl) rfl ((e_impl_MakeBoot_1 N _ K).trans h)
  · cases h
/-! ### slices.IndexFunc[[]int64,int64] -/
abbrev sl_slices_IndexFunc_int64_Fimpl_MakeBoot_1_r : SlotT := [(0, ([0, 1, 7, 8], [4]))]
abbrev J_slices_IndexFunc_int64_Fimpl_MakeBoot_1_r : JT := jn [] [] []
noncomputable def O_slices_IndexFunc_int64_Fimpl_MakeBoot_1_r (N : Nat) : Orc E := addFn 119 (o_impl_MakeBoot_1 N) (noFn)
theorem O_slices_IndexFunc_int64_Fimpl_MakeBoot_1_r_ok (N : Nat) : OrcOk (O_slices_IndexFunc_int64_Fimpl_MakeBoot_1_r N) := addFn_ok (o_impl_MakeBoot_1_ok N) (noFn_ok)
def s_slices_IndexFunc_int64_Fimpl_MakeBoot_1_r_0 (N : Nat) {R : Type} (b1 : Bool) (n : Int) (l1 : List Int) (n1 : Int) (ag : Int → Option R)  (kR : Int → Option R) (kN : Option R) : Option R :=
  (cond (decide ((n1 < n)))
  (cond ((decide (((0 : Int) ≤ n1))) && (decide ((n1 < (((List.length l1) : Nat) : Int)))))
    (elemK l1 (Int.toNat n1) fun x =>
      (g_impl_MakeBoot_1 N x fun b2 =>
      (cond b2
      (kR n1)
      (ag (Go.IntKind.wrap Go.IntKind.i64 (n1 + (1 : Int)))))))
    none)
  kN)
def l_slices_IndexFunc_int64_Fimpl_MakeBoot_1_r_0 (N : Nat) {R : Type} (b1 : Bool) (n : Int) (l1 : List Int) (kR : Int → Option R) (kN : Option R) : Nat → Int → Option R
  | 0, _ => none
  | f + 1, n1 => s_slices_IndexFunc_int64_Fimpl_MakeBoot_1_r_0 N b1 n l1 n1 (fun n1 => l_slices_IndexFunc_int64_Fimpl_MakeBoot_1_r_0 N b1 n l1 kR kN f n1)  kR kN
def c_slices_IndexFunc_int64_Fimpl_MakeBoot_1_r_0 (N : Nat) {R : Type} (b1 : Bool) (n : Int) (l1 : List Int) (n1 : Int) (kR : Int → Option R) (kN : Option R) : Option R := l_slices_IndexFunc_int64_Fimpl_MakeBoot_1_r_0 N b1 n l1 kR kN N n1
theorem se_slices_IndexFunc_int64_Fimpl_MakeBoot_1_r_0 (N : Nat) {R : Type} (b1 : Bool) (n : Int) (l1 : List Int) (n1 : Int) (AG : List (Option AV) → Hp E → Option R) (KL : Ex → List (Option AV) → Hp E → Option R) :
    iterStep (E := E) (O_slices_IndexFunc_int64_Fimpl_MakeBoot_1_r N) (fun {R} => LI (noIt) 1 19 sl_slices_IndexFunc_int64_Fimpl_MakeBoot_1_r (R := R)) J_slices_IndexFunc_int64_Fimpl_MakeBoot_1_r 1 19 0 [0, 1, 7, 8] [4] (body Go.Proofs.Try.f164 0) AG KL [(Option.some (Go.Eng.AV.sc (Go.Eng.SV.slc 0 Option.none b1))), (Option.some (Go.Eng.AV.sc (Go.Eng.SV.fn 119 []))), (Option.some (Go.Eng.AV.sc (Go.Eng.SV.int Go.IntKind.i64 n))), (Option.some (Go.Eng.AV.sc (Go.Eng.SV.int Go.IntKind.i64 n1)))] [(Option.some (Go.Eng.HE.mk Bool.true (Go.Eng.HB.rows (Go.Sa.B.i64 l1))))] =
      s_slices_IndexFunc_int64_Fimpl_MakeBoot_1_r_0 N b1 n l1 n1 (fun n1 => AG [(Option.some (Go.Eng.AV.sc (Go.Eng.SV.slc 0 Option.none b1))), (Option.some (Go.Eng.AV.sc (Go.Eng.SV.fn 119 []))), (Option.some (Go.Eng.AV.sc (Go.Eng.SV.int Go.IntKind.i64 n))), (Option.some (Go.Eng.AV.sc (Go.Eng.SV.int Go.IntKind.i64 n1)))] [(Option.some (Go.Eng.HE.mk Bool.true (Go.Eng.HB.rows (Go.Sa.B.i64 l1))))])  (fun n4 => KL Go.Eng.Ex.ret [(Option.some (Go.Eng.AV.sc (Go.Eng.SV.int Go.IntKind.i64 n4)))] [(Option.some (Go.Eng.HE.mk Bool.true (Go.Eng.HB.rows (Go.Sa.B.i64 l1))))]) (KL Go.Eng.Ex.normal [Option.none] [(Option.some (Go.Eng.HE.mk Bool.true (Go.Eng.HB.rows (Go.Sa.B.i64 l1))))]) := by kernel_rfl
theorem le_slices_IndexFunc_int64_Fimpl_MakeBoot_1_r_0 (N : Nat) {R : Type} (b1 : Bool) (n : Int) (l1 : List Int) (KL : Ex → List (Option AV) → Hp E → Option R) : ∀ (f : Nat), ∀ (n1 : Int), iterK (E := E) (O_slices_IndexFunc_int64_Fimpl_MakeBoot_1_r N) (fun {R} => LI (noIt) 1 19 sl_slices_IndexFunc_int64_Fimpl_MakeBoot_1_r (R := R)) J_slices_IndexFunc_int64_Fimpl_MakeBoot_1_r 1 19 0 [0, 1, 7, 8] [4] (body Go.Proofs.Try.f164 0) f [(Option.some (Go.Eng.AV.sc (Go.Eng.SV.slc 0 Option.none b1))), (Option.some (Go.Eng.AV.sc (Go.Eng.SV.fn 119 []))), (Option.some (Go.Eng.AV.sc (Go.Eng.SV.int Go.IntKind.i64 n))), (Option.some (Go.Eng.AV.sc (Go.Eng.SV.int Go.IntKind.i64 n1)))] [(Option.some (Go.Eng.HE.mk Bool.true (Go.Eng.HB.rows (Go.Sa.B.i64 l1))))] KL = l_slices_IndexFunc_int64_Fimpl_MakeBoot_1_r_0 N b1 n l1 (fun n4 => KL Go.Eng.Ex.ret [(Option.some (Go.Eng.AV.sc (Go.Eng.SV.int Go.IntKind.i64 n4)))] [(Option.some (Go.Eng.HE.mk Bool.true (Go.Eng.HB.rows (Go.Sa.B.i64 l1))))]) (KL Go.Eng.Ex.normal [Option.none] [(Option.some (Go.Eng.HE.mk Bool.true (Go.Eng.HB.rows (Go.Sa.B.i64 l1))))]) f n1 := by
  intro f
  induction f with
  | zero => intros; rfl
  | succ f ih =>
    intro n1
    rw [iterK_succ, se_slices_IndexFunc_int64_Fimpl_MakeBoot_1_r_0]
    exact (congrArg (fun z0 => s_slices_IndexFunc_int64_Fimpl_MakeBoot_1_r_0 N b1 n l1 n1 z0 (fun n4 => KL Go.Eng.Ex.ret [(Option.some (Go.Eng.AV.sc (Go.Eng.SV.int Go.IntKind.i64 n4)))] [(Option.some (Go.Eng.HE.mk Bool.true (Go.Eng.HB.rows (Go.Sa.B.i64 l1))))]) (KL Go.Eng.Ex.normal [Option.none] [(Option.some (Go.Eng.HE.mk Bool.true (Go.Eng.HB.rows (Go.Sa.B.i64 l1))))])) (funext fun n1 => ih n1))
def i_slices_IndexFunc_int64_Fimpl_MakeBoot_1_r_0 (N : Nat) {R : Type} (vs : List (Option AV)) (H : Hp E) (KL : Ex → List (Option AV) → Hp E → Option R) : Option R :=
  match vs, H with
  | [(Option.some (Go.Eng.AV.sc (Go.Eng.SV.slc 0 Option.none b1))), (Option.some (Go.Eng.AV.sc (Go.Eng.SV.fn 119 []))), (Option.some (Go.Eng.AV.sc (Go.Eng.SV.int Go.IntKind.i64 n))), (Option.some (Go.Eng.AV.sc (Go.Eng.SV.int Go.IntKind.i64 n1)))], [(Option.some (Go.Eng.HE.mk Bool.true (Go.Eng.HB.rows (Go.Sa.B.i64 l1))))] => c_slices_IndexFunc_int64_Fimpl_MakeBoot_1_r_0 N b1 n l1 n1 (fun n5 => KL Go.Eng.Ex.ret [(Option.some (Go.Eng.AV.sc (Go.Eng.SV.int Go.IntKind.i64 n5)))] [(Option.some (Go.Eng.HE.mk Bool.true (Go.Eng.HB.rows (Go.Sa.B.i64 l1))))]) (KL Go.Eng.Ex.normal [Option.none] [(Option.some (Go.Eng.HE.mk Bool.true (Go.Eng.HB.rows (Go.Sa.B.i64 l1))))])
  | _, _ => none
noncomputable def IT_slices_IndexFunc_int64_Fimpl_MakeBoot_1_r_0 (N : Nat) : Its E := addIt 0 (i_slices_IndexFunc_int64_Fimpl_MakeBoot_1_r_0 N) (noIt)
theorem IT_slices_IndexFunc_int64_Fimpl_MakeBoot_1_r_0_ok (N : Nat) : ItOk (IT_slices_IndexFunc_int64_Fimpl_MakeBoot_1_r_0 N) 1 19 sl_slices_IndexFunc_int64_Fimpl_MakeBoot_1_r (lsB Go.Proofs.Try.f164 [0]) :=
  addItB_ok (inner := []) ok (O_slices_IndexFunc_int64_Fimpl_MakeBoot_1_r_ok N) (jn_ok _ _ _) (noIt_ok) rfl (by kernel_rfl) rfl fun vs H KL r h => by
    unfold i_slices_IndexFunc_int64_Fimpl_MakeBoot_1_r_0 at h
    split at h
    · exact ⟨_, (le_slices_IndexFunc_int64_Fimpl_MakeBoot_1_r_0 N _ _ _ KL N _).trans h⟩
    · cases h
def g_slices_IndexFunc_int64_Fimpl_MakeBoot_1_r (N : Nat) {R : Type} (b : Bool) (l : List Int) (k : Int → Option R) : Option R :=
  (c_slices_IndexFunc_int64_Fimpl_MakeBoot_1_r_0 N b (((List.length l) : Nat) : Int) l (0 : Int) (fun n2 =>
  (k n2)) (
  (k (-(1 : Int)))))
theorem e_slices_IndexFunc_int64_Fimpl_MakeBoot_1_r (N : Nat) {R : Type} (b : Bool) (l : List Int) (K : AV → Hp E → Option R) :
    runFnI (E := E) (O_slices_IndexFunc_int64_Fimpl_MakeBoot_1_r N) (IT_slices_IndexFunc_int64_Fimpl_MakeBoot_1_r_0 N) sl_slices_IndexFunc_int64_Fimpl_MakeBoot_1_r J_slices_IndexFunc_int64_Fimpl_MakeBoot_1_r Go.Proofs.Try.f164 [(Go.Eng.AV.sc (Go.Eng.SV.slc 0 Option.none b)), (Go.Eng.AV.sc (Go.Eng.SV.fn 119 []))] [(Option.some (Go.Eng.HE.mk Bool.true (Go.Eng.HB.rows (Go.Sa.B.i64 l))))] K =
      g_slices_IndexFunc_int64_Fimpl_MakeBoot_1_r N b l (fun n3 => K (Go.Eng.AV.sc (Go.Eng.SV.int Go.IntKind.i64 n3)) [(Option.some (Go.Eng.HE.mk Bool.true (Go.Eng.HB.rows (Go.Sa.B.i64 l))))]) := by kernel_rfl
def o_slices_IndexFunc_int64_Fimpl_MakeBoot_1_r (N : Nat) {R : Type} (args : List AV) (H : Hp E) (K : AV → Hp E → Option R) : Option R :=
  match args, H with
  | [(Go.Eng.AV.sc (Go.Eng.SV.slc 0 Option.none b)), (Go.Eng.AV.sc (Go.Eng.SV.fn 119 []))], [(Option.some (Go.Eng.HE.mk Bool.true (Go.Eng.HB.rows (Go.Sa.B.i64 l))))] => g_slices_IndexFunc_int64_Fimpl_MakeBoot_1_r N b l (fun n3 => K (Go.Eng.AV.sc (Go.Eng.SV.int Go.IntKind.i64 n3)) [(Option.some (Go.Eng.HE.mk Bool.true (Go.Eng.HB.rows (Go.Sa.B.i64 l))))])
  | _, _ => none
theorem o_slices_IndexFunc_int64_Fimpl_MakeBoot_1_r_ok (N : Nat) : FnOk E 164 (o_slices_IndexFunc_int64_Fimpl_MakeBoot_1_r N) := by
  intro R args H K r h
  unfold o_slices_IndexFunc_int64_Fimpl_MakeBoot_1_r at h
  dsimp only at h
  split at h
  · exact fnB_ok (ids := [0]) (top := [0]) ok (O_slices_IndexFunc_int64_Fimpl_MakeBoot_1_r_ok N) (jn_ok _ _ _) Go.Proofs.Try.func164 (by kernel_rfl) (IT := IT_slices_IndexFunc_int64_Fimpl_MakeBoot_1_r_0 N) (sl := sl_slices_IndexFunc_int64_Fimpl_MakeBoot_1_r) (J := J_slices_IndexFunc_int64_Fimpl_MakeBoot_1_r) (K := K) (H := [(Option.some (Go.Eng.HE.mk Bool.true (Go.Eng.HB.rows (Go.Sa.B.i64 _))))]) (IT_slices_IndexFunc_int64_Fimpl_MakeBoot_1_r_0_ok N) (by kernel_rfl) rfl ((e_slices_IndexFunc_int64_Fimpl_MakeBoot_1_r N _ _ K).trans h)
  · cases h
/-! ### slices.ContainsFunc[[]int64,int64] -/
abbrev sl_slices_ContainsFunc_int64_Fimpl_MakeBoot_1_r : SlotT := []
abbrev J_slices_ContainsFunc_int64_Fimpl_MakeBoot_1_r : JT := jn [] [] []
noncomputable def O_slices_ContainsFunc_int64_Fimpl_MakeBoot_1_r (N : Nat) : Orc E := addFn 164 (o_slices_IndexFunc_int64_Fimpl_MakeBoot_1_r N) (noFn)
theorem O_slices_ContainsFunc_int64_Fimpl_MakeBoot_1_r_ok (N : Nat) : OrcOk (O_slices_ContainsFunc_int64_Fimpl_MakeBoot_1_r N) := addFn_ok (o_slices_IndexFunc_int64_Fimpl_MakeBoot_1_r_ok N) (noFn_ok)
def g_slices_ContainsFunc_int64_Fimpl_MakeBoot_1_r (N : Nat) {R : Type} (b : Bool) (l : List Int) (k : Bool → Option R) : Option R :=
  (g_slices_IndexFunc_int64_Fimpl_MakeBoot_1_r N b l fun n =>
  (k (decide ((n ≥ (0 : Int))))))
theorem e_slices_ContainsFunc_int64_Fimpl_MakeBoot_1_r (N : Nat) {R : Type} (b : Bool) (l : List Int) (K : AV → Hp E → Option R) :
    runFnI (E := E) (O_slices_ContainsFunc_int64_Fimpl_MakeBoot_1_r N) (noIt) sl_slices_ContainsFunc_int64_Fimpl_MakeBoot_1_r J_slices_ContainsFunc_int64_Fimpl_MakeBoot_1_r Go.Proofs.Try.f118 [(Go.Eng.AV.sc (Go.Eng.SV.slc 0 Option.none b)), (Go.Eng.AV.sc (Go.Eng.SV.fn 119 []))] [(Option.some (Go.Eng.HE.mk Bool.true (Go.Eng.HB.rows (Go.Sa.B.i64 l))))] K =
      g_slices_ContainsFunc_int64_Fimpl_MakeBoot_1_r N b l (fun b1 => K (Go.Eng.AV.sc (Go.Eng.SV.bool b1)) [(Option.some (Go.Eng.HE.mk Bool.true (Go.Eng.HB.rows (Go.Sa.B.i64 l))))]) := by kernel_rfl
def o_slices_ContainsFunc_int64_Fimpl_MakeBoot_1_r (N : Nat) {R : Type} (args : List AV) (H : Hp E) (K : AV → Hp E → Option R) : Option R :=
  match args, H with
  | [(Go.Eng.AV.sc (Go.Eng.SV.slc 0 Option.none b)), (Go.Eng.AV.sc (Go.Eng.SV.fn 119 []))], [(Option.some (Go.Eng.HE.mk Bool.true (Go.Eng.HB.rows (Go.Sa.B.i64 l))))] => g_slices_ContainsFunc_int64_Fimpl_MakeBoot_1_r N b l (fun b1 => K (Go.Eng.AV.sc (Go.Eng.SV.bool b1)) [(Option.some (Go.Eng.HE.mk Bool.true (Go.Eng.HB.rows (Go.Sa.B.i64 l))))])
  | _, _ => none
theorem o_slices_ContainsFunc_int64_Fimpl_MakeBoot_1_r_ok (N : Nat) : FnOk E 118 (o_slices_ContainsFunc_int64_Fimpl_MakeBoot_1_r N) := by
  intro R args H K r h
  unfold o_slices_ContainsFunc_int64_Fimpl_MakeBoot_1_r at h
  dsimp only at h
  split at h
  · exact fnB_ok (ids := []) (top := []) ok (O_slices_ContainsFunc_int64_Fimpl_MakeBoot_1_r_ok N) (jn_ok _ _ _) Go.Proofs.Try.func118 (by kernel_rfl) (IT := noIt) (sl := sl_slices_ContainsFunc_int64_Fimpl_MakeBoot_1_r) (J := J_slices_ContainsFunc_int64_Fimpl_MakeBoot_1_r) (K := K) (H := [(Option.some (Go.Eng.HE.mk Bool.true (Go.Eng.HB.rows (Go.Sa.B.i64 _))))]) (noIt_ok) (by kernel_rfl) rfl ((e_slices_ContainsFunc_int64_Fimpl_MakeBoot_1_r N _ _ K).trans h)
  · cases h
/-! ### loop.example/g00038/impl.PutWord -/
abbrev sl_impl_PutWord : SlotT := []
abbrev J_impl_PutWord : JT := jn [] [] []
noncomputable def O_impl_PutWord (N : Nat) : Orc E := noFn
theorem O_impl_PutWord_ok (N : Nat) : OrcOk (O_impl_PutWord N) := noFn_ok
def g_impl_PutWord (N : Nat) {R : Type} (n : Int) (k : ByteArray → Option R) : Option R :=
  (k (Go.Eng.toBytes (Go.Eng.seg [(Go.IntKind.wrap Go.IntKind.u8 (Go.IntKind.wrap Go.IntKind.u32 n)), (Go.IntKind.wrap Go.IntKind.u8 (Int.fdiv (Go.IntKind.wrap Go.IntKind.u32 n) (256 : Int))), (Go.IntKind.wrap Go.IntKind.u8 (Int.fdiv (Go.IntKind.wrap Go.IntKind.u32 n) (65536 : Int))), (Go.IntKind.wrap Go.IntKind.u8 (Int.fdiv (Go.IntKind.wrap Go.IntKind.u32 n) (16777216 : Int)))] 0 (List.length [(Go.IntKind.wrap Go.IntKind.u8 (Go.IntKind.wrap Go.IntKind.u32 n)), (Go.IntKind.wrap Go.IntKind.u8 (Int.fdiv (Go.IntKind.wrap Go.IntKind.u32 n) (256 : Int))), (Go.IntKind.wrap Go.IntKind.u8 (Int.fdiv (Go.IntKind.wrap Go.IntKind.u32 n) (65536 : Int))), (Go.IntKind.wrap Go.IntKind.u8 (Int.fdiv (Go.IntKind.wrap Go.IntKind.u32 n) (16777216 : Int)))]))))
theorem e_impl_PutWord (N : Nat) {R : Type} (n : Int) (K : AV → Hp E → Option R) :
    runFnI (E := E) (O_impl_PutWord N) (noIt) sl_impl_PutWord J_impl_PutWord Go.Proofs.Try.f106 [(Go.Eng.AV.sc (Go.Eng.SV.int Go.IntKind.i64 n))] [] K =
      g_impl_PutWord N n (fun s => K (Go.Eng.AV.sc (Go.Eng.SV.str s)) []) := by kernel_rfl
def o_impl_PutWord (N : Nat) {R : Type} (args : List AV) (H : Hp E) (K : AV → Hp E → Option R) : Option R :=
  match args, H with
  | [(Go.Eng.AV.sc (Go.Eng.SV.int Go.IntKind.i64 n))], [] => g_impl_PutWord N n (fun s => K (Go.Eng.AV.sc (Go.Eng.SV.str s)) [])
  | _, _ => none
theorem o_impl_PutWord_ok (N : Nat) : FnOk E 106 (o_impl_PutWord N) := by
  intro R args H K r h
  unfold o_impl_PutWord at h
  dsimp only at h
  split at h
  · exact fnB_ok (ids := []) (top := []) ok (O_impl_PutWord_ok N) (jn_ok _ _ _) Go.Proofs.Try.func106 (by kernel_rfl) (IT := noIt) (sl := sl_impl_PutWord) (J := J_impl_PutWord) (K := K) (H := []) (noIt_ok) (by kernel_rfl) rfl ((e_impl_PutWord N _ K).trans h)
  · cases h
/-! ### (*strings.Builder).WriteString -/
abbrev sl_strings_Builder_WriteString_Ww : SlotT := []
abbrev J_strings_Builder_WriteString_Ww : JT := jn [] [] []
noncomputable def O_strings_Builder_WriteString_Ww (N : Nat) : Orc E := addFn 175 osp_175 (noFn)
theorem O_strings_Builder_WriteString_Ww_ok (N : Nat) : OrcOk (O_strings_Builder_WriteString_Ww N) := addFn_ok osp_175_ok (noFn_ok)
def g_strings_Builder_WriteString_Ww (N : Nat) {R : Type} (s : ByteArray) (b : Bool) (l : List Int) (k : Int → Bool → (List Int) → Option R) : Option R :=
  (cond (Go.Eng.roomOk ((List.length l) + (List.length (Go.Eng.ofBytes s))) 1)
  (k (((ByteArray.size s) : Nat) : Int) (cond (Nat.beq (List.length (Go.Eng.ofBytes s)) 0) b Bool.false) (l ++ (Go.Eng.ofBytes s)))
  none)
theorem e_strings_Builder_WriteString_Ww (N : Nat) {R : Type} (s : ByteArray) (b : Bool) (l : List Int) (K : AV → Hp E → Option R) :
    runFnI (E := E) (O_strings_Builder_WriteString_Ww N) (noIt) sl_strings_Builder_WriteString_Ww J_strings_Builder_WriteString_Ww Go.Proofs.Try.f165 [(Go.Eng.AV.sc (Go.Eng.SV.ptr 0 0 0)), (Go.Eng.AV.sc (Go.Eng.SV.str s))] [(Option.some (Go.Eng.HE.mk Bool.false (Go.Eng.HB.exp (Option.some 185) [Go.Eng.SV.nilp, (Go.Eng.SV.slc 1 Option.none b)]))), (Option.some (Go.Eng.HE.mk Bool.false (Go.Eng.HB.rows (Go.Sa.B.u8 l))))] K =
      g_strings_Builder_WriteString_Ww N s b l (fun n b1 l1 => K (Go.Eng.AV.tup [(Bool.false, [(Go.Eng.SV.int Go.IntKind.i64 n)]), (Bool.false, [Go.Eng.SV.nili])]) [(Option.some (Go.Eng.HE.mk Bool.false (Go.Eng.HB.exp (Option.some 185) [(Go.Eng.SV.ptr 0 0 0), (Go.Eng.SV.slc 2 Option.none b1)]))), Option.none, (Option.some (Go.Eng.HE.mk Bool.false (Go.Eng.HB.rows (Go.Sa.B.u8 l1))))]) := by kernel_rfl
def o_strings_Builder_WriteString_Ww (N : Nat) {R : Type} (args : List AV) (H : Hp E) (K : AV → Hp E → Option R) : Option R :=
  match args, H with
  | [(Go.Eng.AV.sc (Go.Eng.SV.ptr 0 0 0)), (Go.Eng.AV.sc (Go.Eng.SV.str s))], [(Option.some (Go.Eng.HE.mk Bool.false (Go.Eng.HB.exp (Option.some 185) [Go.Eng.SV.nilp, (Go.Eng.SV.slc 1 Option.none b)]))), (Option.some (Go.Eng.HE.mk Bool.false (Go.Eng.HB.rows (Go.Sa.B.u8 l))))] => g_strings_Builder_WriteString_Ww N s b l (fun n b1 l1 => K (Go.Eng.AV.tup [(Bool.false, [(Go.Eng.SV.int Go.IntKind.i64 n)]), (Bool.false, [Go.Eng.SV.nili])]) [(Option.some (Go.Eng.HE.mk Bool.false (Go.Eng.HB.exp (Option.some 185) [(Go.Eng.SV.ptr 0 0 0), (Go.Eng.SV.slc 2 Option.none b1)]))), Option.none, (Option.some (Go.Eng.HE.mk Bool.false (Go.Eng.HB.rows (Go.Sa.B.u8 l1))))])
  | _, _ => none
theorem o_strings_Builder_WriteString_Ww_ok (N : Nat) : FnOk E 165 (o_strings_Builder_WriteString_Ww N) := by
  intro R args H K r h
  unfold o_strings_Builder_WriteString_Ww at h
  dsimp only at h
  split at h
  · exact fnB_ok (ids := []) (top := []) ok (O_strings_Builder_WriteString_Ww_ok N) (jn_ok _ _ _) Go.Proofs.Try.func165 (by kernel_rfl) (IT := noIt) (sl := sl_strings_Builder_WriteString_Ww) (J := J_strings_Builder_WriteString_Ww) (K := K) (H := [(Option.some (Go.Eng.HE.mk Bool.false (Go.Eng.HB.exp (Option.some 185) [Go.Eng.SV.nilp, (Go.Eng.SV.slc 1 Option.none _)]))), (Option.some (Go.Eng.HE.mk Bool.false (Go.Eng.HB.rows (Go.Sa.B.u8 _))))]) (noIt_ok) (by kernel_rfl) rfl ((e_strings_Builder_WriteString_Ww N _ _ _ K).trans h)
  · cases h
/-! ### (*strings.Builder).WriteString -/
abbrev sl_strings_Builder_WriteString_Ww_v1 : SlotT := []
abbrev J_strings_Builder_WriteString_Ww_v1 : JT := jn [] [] []
noncomputable def O_strings_Builder_WriteString_Ww_v1 (N : Nat) : Orc E := addFn 175 osp_175 (noFn)
theorem O_strings_Builder_WriteString_Ww_v1_ok (N : Nat) : OrcOk (O_strings_Builder_WriteString_Ww_v1 N) := addFn_ok osp_175_ok (noFn_ok)
def g_strings_Builder_WriteString_Ww_v1 (N : Nat) {R : Type} (s : ByteArray) (b : Bool) (l : List Int) (k : Int → Bool → (List Int) → Option R) : Option R :=
  (cond (Go.Eng.roomOk ((List.length l) + (List.length (Go.Eng.ofBytes s))) 1)
  (k (((ByteArray.size s) : Nat) : Int) (cond (Nat.beq (List.length (Go.Eng.ofBytes s)) 0) b Bool.false) (l ++ (Go.Eng.ofBytes s)))
  none)
theorem e_strings_Builder_WriteString_Ww_v1 (N : Nat) {R : Type} (s : ByteArray) (b : Bool) (l : List Int) (K : AV → Hp E → Option R) :
    runFnI (E := E) (O_strings_Builder_WriteString_Ww_v1 N) (noIt) sl_strings_Builder_WriteString_Ww_v1 J_strings_Builder_WriteString_Ww_v1 Go.Proofs.Try.f165 [(Go.Eng.AV.sc (Go.Eng.SV.ptr 0 0 0)), (Go.Eng.AV.sc (Go.Eng.SV.str s))] [(Option.some (Go.Eng.HE.mk Bool.false (Go.Eng.HB.exp (Option.some 185) [(Go.Eng.SV.ptr 0 0 0), (Go.Eng.SV.slc 1 Option.none b)]))), (Option.some (Go.Eng.HE.mk Bool.false (Go.Eng.HB.rows (Go.Sa.B.u8 l))))] K =
      g_strings_Builder_WriteString_Ww_v1 N s b l (fun n b1 l1 => K (Go.Eng.AV.tup [(Bool.false, [(Go.Eng.SV.int Go.IntKind.i64 n)]), (Bool.false, [Go.Eng.SV.nili])]) [(Option.some (Go.Eng.HE.mk Bool.false (Go.Eng.HB.exp (Option.some 185) [(Go.Eng.SV.ptr 0 0 0), (Go.Eng.SV.slc 2 Option.none b1)]))), Option.none, (Option.some (Go.Eng.HE.mk Bool.false (Go.Eng.HB.rows (Go.Sa.B.u8 l1))))]) := by kernel_rfl
def o_strings_Builder_WriteString_Ww_v1 (N : Nat) {R : Type} (args : List AV) (H : Hp E) (K : AV → Hp E → Option R) : Option R :=
  match args, H with
  | [(Go.Eng.AV.sc (Go.Eng.SV.ptr 0 0 0)), (Go.Eng.AV.sc (Go.Eng.SV.str s))], [(Option.some (Go.Eng.HE.mk Bool.false (Go.Eng.HB.exp (Option.some 185) [(Go.Eng.SV.ptr 0 0 0), (Go.Eng.SV.slc 1 Option.none b)]))), (Option.some (Go.Eng.HE.mk Bool.false (Go.Eng.HB.rows (Go.Sa.B.u8 l))))] => g_strings_Builder_WriteString_Ww_v1 N s b l (fun n b1 l1 => K (Go.Eng.AV.tup [(Bool.false, [(Go.Eng.SV.int Go.IntKind.i64 n)]), (Bool.false, [Go.Eng.SV.nili])]) [(Option.some (Go.Eng.HE.mk Bool.false (Go.Eng.HB.exp (Option.some 185) [(Go.Eng.SV.ptr 0 0 0), (Go.Eng.SV.slc 2 Option.none b1)]))), Option.none, (Option.some (Go.Eng.HE.mk Bool.false (Go.Eng.HB.rows (Go.Sa.B.u8 l1))))])
  | _, _ => none
theorem o_strings_Builder_WriteString_Ww_v1_ok (N : Nat) : FnOk E 165 (o_strings_Builder_WriteString_Ww_v1 N) := by
  intro R args H K r h
  unfold o_strings_Builder_WriteString_Ww_v1 at h
  dsimp only at h
  split at h
  · exact fnB_ok (ids := []) (top := []) ok (O_strings_Builder_WriteString_Ww_v1_ok N) (jn_ok _ _ _) Go.Proofs.Try.func165 (by kernel_rfl) (IT := noIt) (sl := sl_strings_Builder_WriteString_Ww_v1) (J := J_strings_Builder_WriteString_Ww_v1) (K := K) (H := [(Option.some (Go.Eng.HE.mk Bool.false (Go.Eng.HB.exp (Option.some 185) [(Go.Eng.SV.ptr 0 0 0), (Go.Eng.SV.slc 1 Option.none _)]))), (Option.some (Go.Eng.HE.mk Bool.false (Go.Eng.HB.rows (Go.Sa.B.u8 _))))]) (noIt_ok) (by kernel_rfl) rfl ((e_strings_Builder_WriteString_Ww_v1 N _ _ _ K).trans h)
  · cases h
/-! ### loop.example/g00038/impl.yregsText -/
def oc_impl_yregsText_w_165 (N : Nat) {R : Type} (args : List AV) (H : Hp E) (K : AV → Hp E → Option R) : Option R :=
  match args, H with
  | [(Go.Eng.AV.sc (Go.Eng.SV.ptr 0 0 0)), (Go.Eng.AV.sc (Go.Eng.SV.str _))], [(Option.some (Go.Eng.HE.mk Bool.false (Go.Eng.HB.exp (Option.some 185) [Go.Eng.SV.nilp, (Go.Eng.SV.slc 1 Option.none _)]))), (Option.some (Go.Eng.HE.mk Bool.false (Go.Eng.HB.rows (Go.Sa.B.u8 _))))] => o_strings_Builder_WriteString_Ww N args H K
  | [(Go.Eng.AV.sc (Go.Eng.SV.ptr 0 0 0)), (Go.Eng.AV.sc (Go.Eng.SV.str _))], [(Option.some (Go.Eng.HE.mk Bool.false (Go.Eng.HB.exp (Option.some 185) [(Go.Eng.SV.ptr 0 0 0), (Go.Eng.SV.slc 1 Option.none _)]))), (Option.some (Go.Eng.HE.mk Bool.false (Go.Eng.HB.rows (Go.Sa.B.u8 _))))] => o_strings_Builder_WriteString_Ww_v1 N args H K
  | _, _ => none
theorem oc_impl_yregsText_w_165_ok (N : Nat) : FnOk E 165 (oc_impl_yregsText_w_165 N) := by
  intro R args H K r h
  unfold oc_impl_yregsText_w_165 at h
  dsimp only at h
  split at h
  · exact o_strings_Builder_WriteString_Ww_ok N _ _ _ _ h
  · exact o_strings_Builder_WriteString_Ww_v1_ok N _ _ _ _ h
  · cases h
abbrev sl_impl_yregsText_w : SlotT := [(0, ([3, 6, 7, 8], [3]))]
abbrev J_impl_yregsText_w : JT := jn [] [] []
noncomputable def O_impl_yregsText_w (N : Nat) : Orc E := addFn 166 osp_166 (addFn 165 (oc_impl_yregsText_w_165 N) (addFn 106 (o_impl_PutWord N) (noFn)))
theorem O_impl_yregsText_w_ok (N : Nat) : OrcOk (O_impl_yregsText_w N) := addFn_ok osp_166_ok (addFn_ok (oc_impl_yregsText_w_165_ok N) (addFn_ok (o_impl_PutWord_ok N) (noFn_ok)))
def s_impl_yregsText_w_0 (N : Nat) {R : Type} (b4 : Bool) (n3 : Int) (l4 : List Int) (n4 : Int) (b5 : Bool) (l5 : List Int) (ag : Int → Bool → (List Int) → Option R)  (kN : (List Int) → Bool → (List Int) → Option R) : Option R :=
  (cond (decide ((n4 < n3)))
  (cond ((decide (((0 : Int) ≤ n4))) && (decide ((n4 < (((List.length l4) : Nat) : Int)))))
    (elemK l4 (Int.toNat n4) fun x1 =>
      (g_impl_PutWord N x1 fun s1 =>
      (g_strings_Builder_WriteString_Ww_v1 N s1 b5 l5 fun n5 b6 l6 =>
      (ag (Go.IntKind.wrap Go.IntKind.i64 (n4 + (1 : Int))) b6 l6))))
    none)
  (kN l4 b5 l5))
def l_impl_yregsText_w_0 (N : Nat) {R : Type} (b4 : Bool) (n3 : Int) (l4 : List Int) (kN : (List Int) → Bool → (List Int) → Option R) : Nat → Int → Bool → (List Int) → Option R
  | 0, _, _, _ => none
  | f + 1, n4, b5, l5 => s_impl_yregsText_w_0 N b4 n3 l4 n4 b5 l5 (fun n4 b5 l5 => l_impl_yregsText_w_0 N b4 n3 l4 kN f n4 b5 l5)  kN
def c_impl_yregsText_w_0 (N : Nat) {R : Type} (b4 : Bool) (n3 : Int) (l4 : List Int) (n4 : Int) (b5 : Bool) (l5 : List Int) (kN : (List Int) → Bool → (List Int) → Option R) : Option R := l_impl_yregsText_w_0 N b4 n3 l4 kN N n4 b5 l5
theorem se_impl_yregsText_w_0 (N : Nat) {R : Type} (b4 : Bool) (n3 : Int) (l4 : List Int) (n4 : Int) (b5 : Bool) (l5 : List Int) (AG : List (Option AV) → Hp E → Option R) (KL : Ex → List (Option AV) → Hp E → Option R) :
    iterStep (E := E) (O_impl_yregsText_w N) (fun {R} => LI (noIt) 1 17 sl_impl_yregsText_w (R := R)) J_impl_yregsText_w 1 17 0 [3, 6, 7, 8] [3] (body Go.Proofs.Try.f120 0) AG KL [(Option.some (Go.Eng.AV.sc (Go.Eng.SV.ptr 1 0 0))), (Option.some (Go.Eng.AV.sc (Go.Eng.SV.slc 0 Option.none b4))), (Option.some (Go.Eng.AV.sc (Go.Eng.SV.int Go.IntKind.i64 n3))), (Option.some (Go.Eng.AV.sc (Go.Eng.SV.int Go.IntKind.i64 n4)))] [(Option.some (Go.Eng.HE.mk Bool.false (Go.Eng.HB.rows (Go.Sa.B.i64 l4)))), (Option.some (Go.Eng.HE.mk Bool.false (Go.Eng.HB.exp (Option.some 185) [(Go.Eng.SV.ptr 1 0 0), (Go.Eng.SV.slc 2 Option.none b5)]))), (Option.some (Go.Eng.HE.mk Bool.false (Go.Eng.HB.rows (Go.Sa.B.u8 l5))))] =
      s_impl_yregsText_w_0 N b4 n3 l4 n4 b5 l5 (fun n4 b5 l5 => AG [(Option.some (Go.Eng.AV.sc (Go.Eng.SV.ptr 1 0 0))), (Option.some (Go.Eng.AV.sc (Go.Eng.SV.slc 0 Option.none b4))), (Option.some (Go.Eng.AV.sc (Go.Eng.SV.int Go.IntKind.i64 n3))), (Option.some (Go.Eng.AV.sc (Go.Eng.SV.int Go.IntKind.i64 n4)))] [(Option.some (Go.Eng.HE.mk Bool.false (Go.Eng.HB.rows (Go.Sa.B.i64 l4)))), (Option.some (Go.Eng.HE.mk Bool.false (Go.Eng.HB.exp (Option.some 185) [(Go.Eng.SV.ptr 1 0 0), (Go.Eng.SV.slc 2 Option.none b5)]))), (Option.some (Go.Eng.HE.mk Bool.false (Go.Eng.HB.rows (Go.Sa.B.u8 l5))))])  (fun l10 b8 l11 => KL Go.Eng.Ex.normal [(Option.some (Go.Eng.AV.sc (Go.Eng.SV.ptr 1 0 0)))] [(Option.some (Go.Eng.HE.mk Bool.false (Go.Eng.HB.rows (Go.Sa.B.i64 l10)))), (Option.some (Go.Eng.HE.mk Bool.false (Go.Eng.HB.exp (Option.some 185) [(Go.Eng.SV.ptr 1 0 0), (Go.Eng.SV.slc 2 Option.none b8)]))), (Option.some (Go.Eng.HE.mk Bool.false (Go.Eng.HB.rows (Go.Sa.B.u8 l11))))]) := by kernel_rfl
theorem le_impl_yregsText_w_0 (N : Nat) {R : Type} (b4 : Bool) (n3 : Int) (l4 : List Int) (KL : Ex → List (Option AV) → Hp E → Option R) : ∀ (f : Nat), ∀ (n4 : Int) (b5 : Bool) (l5 : List Int), iterK (E := E) (O_impl_yregsText_w N) (fun {R} => LI (noIt) 1 17 sl_impl_yregsText_w (R := R)) J_impl_yregsText_w 1 17 0 [3, 6, 7, 8] [3] (body Go.Proofs.Try.f120 0) f [(Option.some (Go.Eng.AV.sc (Go.Eng.SV.ptr 1 0 0))), (Option.some (Go.Eng.AV.sc (Go.Eng.SV.slc 0 Option.none b4))), (Option.some (Go.Eng.AV.sc (Go.Eng.SV.int Go.IntKind.i64 n3))), (Option.some (Go.Eng.AV.sc (Go.Eng.SV.int Go.IntKind.i64 n4)))] [(Option.some (Go.Eng.HE.mk Bool.false (Go.Eng.HB.rows (Go.Sa.B.i64 l4)))), (Option.some (Go.Eng.HE.mk Bool.false (Go.Eng.HB.exp (Option.some 185) [(Go.Eng.SV.ptr 1 0 0), (Go.Eng.SV.slc 2 Option.none b5)]))), (Option.some (Go.Eng.HE.mk Bool.false (Go.Eng.HB.rows (Go.Sa.B.u8 l5))))] KL = l_impl_yregsText_w_0 N b4 n3 l4 (fun l10 b8 l11 => KL Go.Eng.Ex.normal [(Option.some (Go.Eng.AV.sc (Go.Eng.SV.ptr 1 0 0)))] [(Option.some (Go.Eng.HE.mk Bool.false (Go.Eng.HB.rows (Go.Sa.B.i64 l10)))), (Option.some (Go.Eng.HE.mk Bool.false (Go.Eng.HB.exp (Option.some 185) [(Go.Eng.SV.ptr 1 0 0), (Go.Eng.SV.slc 2 Option.none b8)]))), (Option.some (Go.Eng.HE.mk Bool.false (Go.Eng.HB.rows (Go.Sa.B.u8 l11))))]) f n4 b5 l5 := by
  intro f
  induction f with
  | zero => intros; rfl
  | succ f ih =>
    intro n4 b5 l5
    rw [iterK_succ, se_impl_yregsText_w_0]
    exact (congrArg (fun z0 => s_impl_yregsText_w_0 N b4 n3 l4 n4 b5 l5 z0 (fun l10 b8 l11 => KL Go.Eng.Ex.normal [(Option.some (Go.Eng.AV.sc (Go.Eng.SV.ptr 1 0 0)))] [(Option.some (Go.Eng.HE.mk Bool.false (Go.Eng.HB.rows (Go.Sa.B.i64 l10)))), (Option.some (Go.Eng.HE.mk Bool.false (Go.Eng.HB.exp (Option.some 185) [(Go.Eng.SV.ptr 1 0 0), (Go.Eng.SV.slc 2 Option.none b8)]))), (Option.some (Go.Eng.HE.mk Bool.false (Go.Eng.HB.rows (Go.Sa.B.u8 l11))))])) (funext fun n4 => funext fun b5 => funext fun l5 => ih n4 b5 l5))
def s_impl_yregsText_w_0b1 (N : Nat) {R : Type} (b1 : Bool) (n : Int) (n1 : Int) (l1 : List Int) (b2 : Bool) (l2 : List Int)  (ag1 : Bool → Int → Int → (List Int) → Bool → (List Int) → Option R) (kNb1 : Option R) : Option R :=
  (cond (decide ((n1 < n)))
  (cond ((decide (((0 : Int) ≤ n1))) && (decide ((n1 < (((List.length l1) : Nat) : Int)))))
    (elemK l1 (Int.toNat n1) fun x =>
      (g_impl_PutWord N x fun s =>
      (g_strings_Builder_WriteString_Ww N s b2 l2 fun n2 b3 l3 =>
      (ag1 b1 n (Go.IntKind.wrap Go.IntKind.i64 (n1 + (1 : Int))) l1 b3 l3))))
    none)
  kNb1)
def l_impl_yregsText_w_0b1 (N : Nat) {R : Type} (b1 : Bool) (n : Int) (n1 : Int) (l1 : List Int) (b2 : Bool) (l2 : List Int) (kNb1 : Option R) (kN : (List Int) → Bool → (List Int) → Option R) : Nat → Option R
  | 0 => none
  | f + 1 => s_impl_yregsText_w_0b1 N b1 n n1 l1 b2 l2  (fun b4 n3 n4 l4 b5 l5 => l_impl_yregsText_w_0 N b4 n3 l4 kN f n4 b5 l5) kNb1
def c_impl_yregsText_w_0b1 (N : Nat) {R : Type} (b1 : Bool) (n : Int) (n1 : Int) (l1 : List Int) (b2 : Bool) (l2 : List Int)  (kNb1 : Option R) (kN : (List Int) → Bool → (List Int) → Option R) : Option R := l_impl_yregsText_w_0b1 N b1 n n1 l1 b2 l2 kNb1 kN N 
theorem se_impl_yregsText_w_0b1 (N : Nat) {R : Type} (b1 : Bool) (n : Int) (n1 : Int) (l1 : List Int) (b2 : Bool) (l2 : List Int)  (AG : List (Option AV) → Hp E → Option R) (KL : Ex → List (Option AV) → Hp E → Option R) :
    iterStep (E := E) (O_impl_yregsText_w N) (fun {R} => LI (noIt) 1 17 sl_impl_yregsText_w (R := R)) J_impl_yregsText_w 1 17 0 [3, 6, 7, 8] [3] (body Go.Proofs.Try.f120 0) AG KL [(Option.some (Go.Eng.AV.sc (Go.Eng.SV.ptr 1 0 0))), (Option.some (Go.Eng.AV.sc (Go.Eng.SV.slc 0 Option.none b1))), (Option.some (Go.Eng.AV.sc (Go.Eng.SV.int Go.IntKind.i64 n))), (Option.some (Go.Eng.AV.sc (Go.Eng.SV.int Go.IntKind.i64 n1)))] [(Option.some (Go.Eng.HE.mk Bool.false (Go.Eng.HB.rows (Go.Sa.B.i64 l1)))), (Option.some (Go.Eng.HE.mk Bool.false (Go.Eng.HB.exp (Option.some 185) [Go.Eng.SV.nilp, (Go.Eng.SV.slc 2 Option.none b2)]))), (Option.some (Go.Eng.HE.mk Bool.false (Go.Eng.HB.rows (Go.Sa.B.u8 l2))))] =
      s_impl_yregsText_w_0b1 N b1 n n1 l1 b2 l2  (fun b4 n3 n4 l4 b5 l5 => AG [(Option.some (Go.Eng.AV.sc (Go.Eng.SV.ptr 1 0 0))), (Option.some (Go.Eng.AV.sc (Go.Eng.SV.slc 0 Option.none b4))), (Option.some (Go.Eng.AV.sc (Go.Eng.SV.int Go.IntKind.i64 n3))), (Option.some (Go.Eng.AV.sc (Go.Eng.SV.int Go.IntKind.i64 n4)))] [(Option.some (Go.Eng.HE.mk Bool.false (Go.Eng.HB.rows (Go.Sa.B.i64 l4)))), (Option.some (Go.Eng.HE.mk Bool.false (Go.Eng.HB.exp (Option.some 185) [(Go.Eng.SV.ptr 1 0 0), (Go.Eng.SV.slc 2 Option.none b5)]))), (Option.some (Go.Eng.HE.mk Bool.false (Go.Eng.HB.rows (Go.Sa.B.u8 l5))))]) (KL Go.Eng.Ex.normal [(Option.some (Go.Eng.AV.sc (Go.Eng.SV.ptr 1 0 0)))] [(Option.some (Go.Eng.HE.mk Bool.false (Go.Eng.HB.rows (Go.Sa.B.i64 l1)))), (Option.some (Go.Eng.HE.mk Bool.false (Go.Eng.HB.exp (Option.some 185) [Go.Eng.SV.nilp, (Go.Eng.SV.slc 2 Option.none b2)]))), (Option.some (Go.Eng.HE.mk Bool.false (Go.Eng.HB.rows (Go.Sa.B.u8 l2))))]) := by kernel_rfl
theorem le_impl_yregsText_w_0b1 (N : Nat) {R : Type} (b1 : Bool) (n : Int) (n1 : Int) (l1 : List Int) (b2 : Bool) (l2 : List Int) (KL : Ex → List (Option AV) → Hp E → Option R) : ∀ (f : Nat), iterK (E := E) (O_impl_yregsText_w N) (fun {R} => LI (noIt) 1 17 sl_impl_yregsText_w (R := R)) J_impl_yregsText_w 1 17 0 [3, 6, 7, 8] [3] (body Go.Proofs.Try.f120 0) f [(Option.some (Go.Eng.AV.sc (Go.Eng.SV.ptr 1 0 0))), (Option.some (Go.Eng.AV.sc (Go.Eng.SV.slc 0 Option.none b1))), (Option.some (Go.Eng.AV.sc (Go.Eng.SV.int Go.IntKind.i64 n))), (Option.some (Go.Eng.AV.sc (Go.Eng.SV.int Go.IntKind.i64 n1)))] [(Option.some (Go.Eng.HE.mk Bool.false (Go.Eng.HB.rows (Go.Sa.B.i64 l1)))), (Option.some (Go.Eng.HE.mk Bool.false (Go.Eng.HB.exp (Option.some 185) [Go.Eng.SV.nilp, (Go.Eng.SV.slc 2 Option.none b2)]))), (Option.some (Go.Eng.HE.mk Bool.false (Go.Eng.HB.rows (Go.Sa.B.u8 l2))))] KL = l_impl_yregsText_w_0b1 N b1 n n1 l1 b2 l2 (KL Go.Eng.Ex.normal [(Option.some (Go.Eng.AV.sc (Go.Eng.SV.ptr 1 0 0)))] [(Option.some (Go.Eng.HE.mk Bool.false (Go.Eng.HB.rows (Go.Sa.B.i64 l1)))), (Option.some (Go.Eng.HE.mk Bool.false (Go.Eng.HB.exp (Option.some 185) [Go.Eng.SV.nilp, (Go.Eng.SV.slc 2 Option.none b2)]))), (Option.some (Go.Eng.HE.mk Bool.false (Go.Eng.HB.rows (Go.Sa.B.u8 l2))))]) (fun l12 b9 l13 => KL Go.Eng.Ex.normal [(Option.some (Go.Eng.AV.sc (Go.Eng.SV.ptr 1 0 0)))] [(Option.some (Go.Eng.HE.mk Bool.false (Go.Eng.HB.rows (Go.Sa.B.i64 l12)))), (Option.some (Go.Eng.HE.mk Bool.false (Go.Eng.HB.exp (Option.some 185) [(Go.Eng.SV.ptr 1 0 0), (Go.Eng.SV.slc 2 Option.none b9)]))), (Option.some (Go.Eng.HE.mk Bool.false (Go.Eng.HB.rows (Go.Sa.B.u8 l13))))]) f  := by
  intro f
  induction f with
  | zero => intros; rfl
  | succ f ih =>
    rw [iterK_succ, se_impl_yregsText_w_0b1]
    exact (congrArg (fun z0 => s_impl_yregsText_w_0b1 N b1 n n1 l1 b2 l2  z0 (KL Go.Eng.Ex.normal [(Option.some (Go.Eng.AV.sc (Go.Eng.SV.ptr 1 0 0)))] [(Option.some (Go.Eng.HE.mk Bool.false (Go.Eng.HB.rows (Go.Sa.B.i64 l1)))), (Option.some (Go.Eng.HE.mk Bool.false (Go.Eng.HB.exp (Option.some 185) [Go.Eng.SV.nilp, (Go.Eng.SV.slc 2 Option.none b2)]))), (Option.some (Go.Eng.HE.mk Bool.false (Go.Eng.HB.rows (Go.Sa.B.u8 l2))))])) (funext fun b4 => funext fun n3 => funext fun n4 => funext fun l4 => funext fun b5 => funext fun l5 => le_impl_yregsText_w_0 N b4 n3 l4 KL f n4 b5 l5))
def i_impl_yregsText_w_0 (N : Nat) {R : Type} (vs : List (Option AV)) (H : Hp E) (KL : Ex → List (Option AV) → Hp E → Option R) : Option R :=
  match vs, H with
  | [(Option.some (Go.Eng.AV.sc (Go.Eng.SV.ptr 1 0 0))), (Option.some (Go.Eng.AV.sc (Go.Eng.SV.slc 0 Option.none b1))), (Option.some (Go.Eng.AV.sc (Go.Eng.SV.int Go.IntKind.i64 n))), (Option.some (Go.Eng.AV.sc (Go.Eng.SV.int Go.IntKind.i64 n1)))], [(Option.some (Go.Eng.HE.mk Bool.false (Go.Eng.HB.rows (Go.Sa.B.i64 l1)))), (Option.some (Go.Eng.HE.mk Bool.false (Go.Eng.HB.exp (Option.some 185) [Go.Eng.SV.nilp, (Go.Eng.SV.slc 2 Option.none b2)]))), (Option.some (Go.Eng.HE.mk Bool.false (Go.Eng.HB.rows (Go.Sa.B.u8 l2))))] => c_impl_yregsText_w_0b1 N b1 n n1 l1 b2 l2  (KL Go.Eng.Ex.normal [(Option.some (Go.Eng.AV.sc (Go.Eng.SV.ptr 1 0 0)))] [(Option.some (Go.Eng.HE.mk Bool.false (Go.Eng.HB.rows (Go.Sa.B.i64 l1)))), (Option.some (Go.Eng.HE.mk Bool.false (Go.Eng.HB.exp (Option.some 185) [Go.Eng.SV.nilp, (Go.Eng.SV.slc 2 Option.none b2)]))), (Option.some (Go.Eng.HE.mk Bool.false (Go.Eng.HB.rows (Go.Sa.B.u8 l2))))]) (fun l14 b10 l15 => KL Go.Eng.Ex.normal [(Option.some (Go.Eng.AV.sc (Go.Eng.SV.ptr 1 0 0)))] [(Option.some (Go.Eng.HE.mk Bool.false (Go.Eng.HB.rows (Go.Sa.B.i64 l14)))), (Option.some (Go.Eng.HE.mk Bool.false (Go.Eng.HB.exp (Option.some 185) [(Go.Eng.SV.ptr 1 0 0), (Go.Eng.SV.slc 2 Option.none b10)]))), (Option.some (Go.Eng.HE.mk Bool.false (Go.Eng.HB.rows (Go.Sa.B.u8 l15))))])
  | _, _ => none
noncomputable def IT_impl_yregsText_w_0 (N : Nat) : Its E := addIt 0 (i_impl_yregsText_w_0 N) (noIt)
theorem IT_impl_yregsText_w_0_ok (N : Nat) : ItOk (IT_impl_yregsText_w_0 N) 1 17 sl_impl_yregsText_w (lsB Go.Proofs.Try.f120 [0]) :=
  addItB_ok (inner := []) ok (O_impl_yregsText_w_ok N) (jn_ok _ _ _) (noIt_ok) rfl (by kernel_rfl) rfl fun vs H KL r h => by
    unfold i_impl_yregsText_w_0 at h
    split at h
    · exact ⟨_, (le_impl_yregsText_w_0b1 N _ _ _ _ _ _ KL N).trans h⟩
    · cases h
def g_impl_yregsText_w (N : Nat) {R : Type} (b : Bool) (l : List Int) (k : ByteArray → (List Int) → Option R) : Option R :=
  (c_impl_yregsText_w_0b1 N b (((List.length l) : Nat) : Int) (0 : Int) l Bool.true [] (
  (k (ByteArray.mk (List.toArray [])) l)) (fun l7 b7 l8 =>
  (cond b7
  (k (ByteArray.mk (List.toArray [])) l7)
  (cond ((Nat.blt 0 (List.length l8)) && (Nat.ble (List.length l8) 9223372036854775807))
    (k (Go.Eng.toBytes l8) l7)
    none))))
theorem e_impl_yregsText_w (N : Nat) {R : Type} (b : Bool) (l : List Int) (K : AV → Hp E → Option R) :
    runFnI (E := E) (O_impl_yregsText_w N) (IT_impl_yregsText_w_0 N) sl_impl_yregsText_w J_impl_yregsText_w Go.Proofs.Try.f120 [(Go.Eng.AV.sc (Go.Eng.SV.slc 0 Option.none b))] [(Option.some (Go.Eng.HE.mk Bool.false (Go.Eng.HB.rows (Go.Sa.B.i64 l))))] K =
      g_impl_yregsText_w N b l (fun s2 l9 => K (Go.Eng.AV.sc (Go.Eng.SV.str s2)) [(Option.some (Go.Eng.HE.mk Bool.false (Go.Eng.HB.rows (Go.Sa.B.i64 l9))))]) := by kernel_rfl
def o_impl_yregsText_w (N : Nat) {R : Type} (args : List AV) (H : Hp E) (K : AV → Hp E → Option R) : Option R :=
  match args, H with
  | [(Go.Eng.AV.sc (Go.Eng.SV.slc 0 Option.none b))], [(Option.some (Go.Eng.HE.mk Bool.false (Go.Eng.HB.rows (Go.Sa.B.i64 l))))] => g_impl_yregsText_w N b l (fun s2 l9 => K (Go.Eng.AV.sc (Go.Eng.SV.str s2)) [(Option.some (Go.Eng.HE.mk Bool.false (Go.Eng.HB.rows (Go.Sa.B.i64 l9))))])
  | _, _ => none
theorem o_impl_yregsText_w_ok (N : Nat) : FnOk E 120 (o_impl_yregsText_w N) := by
  intro R args H K r h
  unfold o_impl_yregsText_w at h
  dsimp only at h
  split at h
  · exact fnB_ok (ids := [0]) (top := [0]) ok (O_impl_yregsText_w_ok N) (jn_ok _ _ _) Go.Proofs.Try.func120 (by kernel_rfl) (IT := IT_impl_yregsText_w_0 N) (sl := sl_impl_yregsText_w) (J := J_impl_yregsText_w) (K := K) (H := [(Option.some (Go.Eng.HE.mk Bool.false (Go.Eng.HB.rows (Go.Sa.B.i64 _))))]) (IT_impl_yregsText_w_0_ok N) (by kernel_rfl) rfl ((e_impl_yregsText_w N _ _ K).trans h)
  · cases h
/-! ### loop.example/g00038/impl.ymod -/
abbrev sl_impl_ymod : SlotT := []
abbrev J_impl_ymod : JT := jn [] [(9, [(0, .i .i64)])] []
noncomputable def O_impl_ymod (N : Nat) : Orc E := noFn
theorem O_impl_ymod_ok (N : Nat) : OrcOk (O_impl_ymod N) := noFn_ok
def g_impl_ymod (N : Nat) {R : Type} (n : Int) (n1 : Int) (k : Int → Option R) : Option R :=
  (cond (n1 == (0 : Int))
  none
  (oK (cond (decide (((Int.tmod n n1) < (0 : Int))))
      (some (Go.IntKind.wrap Go.IntKind.i64 ((Int.tmod n n1) + n1)))
      (some (Int.tmod n n1))) fun j =>
    (k j)))
theorem e_impl_ymod (N : Nat) {R : Type} (n : Int) (n1 : Int) (K : AV → Hp E → Option R) :
    runFnI (E := E) (O_impl_ymod N) (noIt) sl_impl_ymod J_impl_ymod Go.Proofs.Try.f168 [(Go.Eng.AV.sc (Go.Eng.SV.int Go.IntKind.i64 n)), (Go.Eng.AV.sc (Go.Eng.SV.int Go.IntKind.i64 n1))] [] K =
      g_impl_ymod N n n1 (fun n2 => K (Go.Eng.AV.sc (Go.Eng.SV.int Go.IntKind.i64 n2)) []) := by kernel_rfl
def o_impl_ymod (N : Nat) {R : Type} (args : List AV) (H : Hp E) (K : AV → Hp E → Option R) : Option R :=
  match args, H with
  | [(Go.Eng.AV.sc (Go.Eng.SV.int Go.IntKind.i64 n)), (Go.Eng.AV.sc (Go.Eng.SV.int Go.IntKind.i64 n1))], [] => g_impl_ymod N n n1 (fun n2 => K (Go.Eng.AV.sc (Go.Eng.SV.int Go.IntKind.i64 n2)) [])
  | _, _ => none
theorem o_impl_ymod_ok (N : Nat) : FnOk E 168 (o_impl_ymod N) := by
  intro R args H K r h
  unfold o_impl_ymod at h
  dsimp only at h
  split at h
  · exact fnB_ok (ids := []) (top := []) ok (O_impl_ymod_ok N) (jn_ok _ _ _) Go.Proofs.Try.func168 (by kernel_rfl) (IT := noIt) (sl := sl_impl_ymod) (J := J_impl_ymod) (K := K) (H := []) (noIt_ok) (by kernel_rfl) rfl ((e_impl_ymod N _ _ K).trans h)
  · cases h
/-! ### loop.example/g00038/impl.ymix -/
abbrev sl_impl_ymix : SlotT := [(0, ([0, 5, 11, 12], [5]))]
abbrev J_impl_ymix : JT := jn [] [] []
noncomputable def O_impl_ymix (N : Nat) : Orc E := addFn 168 (o_impl_ymod N) (noFn)
theorem O_impl_ymix_ok (N : Nat) : OrcOk (O_impl_ymix N) := addFn_ok (o_impl_ymod_ok N) (noFn_ok)
def s_impl_ymix_0 (N : Nat) {R : Type} (s1 : ByteArray) (n3 : Int) (n2 : Int) (n4 : Int) (ag : Int → Int → Option R)  (kN : Int → Option R) : Option R :=
  (cond (decide ((n4 < n3)))
  (cond ((decide (((0 : Int) ≤ n4))) && (decide ((n4 < (((ByteArray.size s1) : Nat) : Int)))))
    (ag (Int.tmod (Go.IntKind.wrap Go.IntKind.i64 ((Go.IntKind.wrap Go.IntKind.i64 ((Go.IntKind.wrap Go.IntKind.i64 (n2 * (65599 : Int))) + (Go.IntKind.wrap Go.IntKind.i64 (Go.Eng.bt s1 (Int.toNat n4))))) + (1 : Int))) (2147483629 : Int)) (Go.IntKind.wrap Go.IntKind.i64 (n4 + (1 : Int))))
    none)
  (kN n2))
def l_impl_ymix_0 (N : Nat) {R : Type} (s1 : ByteArray) (n3 : Int) (kN : Int → Option R) : Nat → Int → Int → Option R
  | 0, _, _ => none
  | f + 1, n2, n4 => s_impl_ymix_0 N s1 n3 n2 n4 (fun n2 n4 => l_impl_ymix_0 N s1 n3 kN f n2 n4)  kN
def c_impl_ymix_0 (N : Nat) {R : Type} (s1 : ByteArray) (n3 : Int) (n2 : Int) (n4 : Int) (kN : Int → Option R) : Option R := l_impl_ymix_0 N s1 n3 kN N n2 n4
theorem se_impl_ymix_0 (N : Nat) {R : Type} (s1 : ByteArray) (n3 : Int) (n2 : Int) (n4 : Int) (AG : List (Option AV) → Hp E → Option R) (KL : Ex → List (Option AV) → Hp E → Option R) :
    iterStep (E := E) (O_impl_ymix N) (fun {R} => LI (noIt) 0 29 sl_impl_ymix (R := R)) J_impl_ymix 0 29 0 [0, 5, 11, 12] [5] (body Go.Proofs.Try.f122 0) AG KL [(Option.some (Go.Eng.AV.sc (Go.Eng.SV.str s1))), (Option.some (Go.Eng.AV.sc (Go.Eng.SV.int Go.IntKind.i64 n2))), (Option.some (Go.Eng.AV.sc (Go.Eng.SV.int Go.IntKind.i64 n3))), (Option.some (Go.Eng.AV.sc (Go.Eng.SV.int Go.IntKind.i64 n4)))] [] =
      s_impl_ymix_0 N s1 n3 n2 n4 (fun n2 n4 => AG [(Option.some (Go.Eng.AV.sc (Go.Eng.SV.str s1))), (Option.some (Go.Eng.AV.sc (Go.Eng.SV.int Go.IntKind.i64 n2))), (Option.some (Go.Eng.AV.sc (Go.Eng.SV.int Go.IntKind.i64 n3))), (Option.some (Go.Eng.AV.sc (Go.Eng.SV.int Go.IntKind.i64 n4)))] [])  (fun n7 => KL Go.Eng.Ex.normal [(Option.some (Go.Eng.AV.sc (Go.Eng.SV.int Go.IntKind.i64 n7)))] []) := by kernel_rfl
theorem le_impl_ymix_0 (N : Nat) {R : Type} (s1 : ByteArray) (n3 : Int) (KL : Ex → List (Option AV) → Hp E → Option R) : ∀ (f : Nat), ∀ (n2 : Int) (n4 : Int), iterK (E := E) (O_impl_ymix N) (fun {R} => LI (noIt) 0 29 sl_impl_ymix (R := R)) J_impl_ymix 0 29 0 [0, 5, 11, 12] [5] (body Go.Proofs.Try.f122 0) f [(Option.some (Go.Eng.AV.sc (Go.Eng.SV.str s1))), (Option.some (Go.Eng.AV.sc (Go.Eng.SV.int Go.IntKind.i64 n2))), (Option.some (Go.Eng.AV.sc (Go.Eng.SV.int Go.IntKind.i64 n3))), (Option.some (Go.Eng.AV.sc (Go.Eng.SV.int Go.IntKind.i64 n4)))] [] KL = l_impl_ymix_0 N s1 n3 (fun n7 => KL Go.Eng.Ex.normal [(Option.some (Go.Eng.AV.sc (Go.Eng.SV.int Go.IntKind.i64 n7)))] []) f n2 n4 := by
  intro f
  induction f with
  | zero => intros; rfl
  | succ f ih =>
    intro n2 n4
    rw [iterK_succ, se_impl_ymix_0]
    exact (congrArg (fun z0 => s_impl_ymix_0 N s1 n3 n2 n4 z0 (fun n7 => KL Go.Eng.Ex.normal [(Option.some (Go.Eng.AV.sc (Go.Eng.SV.int Go.IntKind.i64 n7)))] [])) (funext fun n2 => funext fun n4 => ih n2 n4))
def i_impl_ymix_0 (N : Nat) {R : Type} (vs : List (Option AV)) (H : Hp E) (KL : Ex → List (Option AV) → Hp E → Option R) : Option R :=
  match vs, H with
  | [(Option.some (Go.Eng.AV.sc (Go.Eng.SV.str s1))), (Option.some (Go.Eng.AV.sc (Go.Eng.SV.int Go.IntKind.i64 n2))), (Option.some (Go.Eng.AV.sc (Go.Eng.SV.int Go.IntKind.i64 n3))), (Option.some (Go.Eng.AV.sc (Go.Eng.SV.int Go.IntKind.i64 n4)))], [] => c_impl_ymix_0 N s1 n3 n2 n4 (fun n8 => KL Go.Eng.Ex.normal [(Option.some (Go.Eng.AV.sc (Go.Eng.SV.int Go.IntKind.i64 n8)))] [])
  | _, _ => none
noncomputable def IT_impl_ymix_0 (N : Nat) : Its E := addIt 0 (i_impl_ymix_0 N) (noIt)
theorem IT_impl_ymix_0_ok (N : Nat) : ItOk (IT_impl_ymix_0 N) 0 29 sl_impl_ymix (lsB Go.Proofs.Try.f122 [0]) :=
  addItB_ok (inner := []) ok (O_impl_ymix_ok N) (jn_ok _ _ _) (noIt_ok) rfl (by kernel_rfl) rfl fun vs H KL r h => by
    unfold i_impl_ymix_0 at h
    split at h
    · exact ⟨_, (le_impl_ymix_0 N _ _ KL N _ _).trans h⟩
    · cases h
def g_impl_ymix (N : Nat) {R : Type} (s : ByteArray) (n : Int) (k : Int → Option R) : Option R :=
  (g_impl_ymod N n (2147483629 : Int) fun n1 =>
  (c_impl_ymix_0 N s (((ByteArray.size s) : Nat) : Int) (Go.IntKind.wrap Go.IntKind.i64 (n1 + (1 : Int))) (0 : Int) fun n5 =>
  (k (Int.tmod (Go.IntKind.wrap Go.IntKind.i64 ((Go.IntKind.wrap Go.IntKind.i64 (n5 * (40503 : Int))) + (77 : Int))) (2147483629 : Int)))))
theorem e_impl_ymix (N : Nat) {R : Type} (s : ByteArray) (n : Int) (K : AV → Hp E → Option R) :
    runFnI (E := E) (O_impl_ymix N) (IT_impl_ymix_0 N) sl_impl_ymix J_impl_ymix Go.Proofs.Try.f122 [(Go.Eng.AV.sc (Go.Eng.SV.str s)), (Go.Eng.AV.sc (Go.Eng.SV.int Go.IntKind.i64 n))] [] K =
      g_impl_ymix N s n (fun n6 => K (Go.Eng.AV.sc (Go.Eng.SV.int Go.IntKind.i64 n6)) []) := by kernel_rfl
def o_impl_ymix (N : Nat) {R : Type} (args : List AV) (H : Hp E) (K : AV → Hp E → Option R) : Option R :=
  match args, H with
  | [(Go.Eng.AV.sc (Go.Eng.SV.str s)), (Go.Eng.AV.sc (Go.Eng.SV.int Go.IntKind.i64 n))], [] => g_impl_ymix N s n (fun n6 => K (Go.Eng.AV.sc (Go.Eng.SV.int Go.IntKind.i64 n6)) [])
  | _, _ => none
theorem o_impl_ymix_ok (N : Nat) : FnOk E 122 (o_impl_ymix N) := by
  intro R args H K r h
  unfold o_impl_ymix at h
  dsimp only at h
  split at h
  · exact fnB_ok (ids := [0]) (top := [0]) ok (O_impl_ymix_ok N) (jn_ok _ _ _) Go.Proofs.Try.func122 (by kernel_rfl) (IT := IT_impl_ymix_0 N) (sl := sl_impl_ymix) (J := J_impl_ymix) (K := K) (H := []) (IT_impl_ymix_0_ok N) (by kernel_rfl) rfl ((e_impl_ymix N _ _ K).trans h)
  · cases h
/-! ### loop.example/g00038/impl.yjoin -/
abbrev sl_impl_yjoin_w : SlotT := []
abbrev J_impl_yjoin_w : JT := jn [] [] []
noncomputable def O_impl_yjoin_w (N : Nat) : Orc E := addFn 167 osp_167 (noFn)
theorem O_impl_yjoin_w_ok (N : Nat) : OrcOk (O_impl_yjoin_w N) := addFn_ok osp_167_ok (noFn_ok)
def g_impl_yjoin_w (N : Nat) {R : Type} (b : Bool) (l : List ByteArray) (k : ByteArray → Option R) : Option R :=
  (cond (Go.Eng.joinOk l (ByteArray.mk (List.toArray [])))
  (k (Go.Eng.joinB l (ByteArray.mk (List.toArray []))))
  none)
theorem e_impl_yjoin_w (N : Nat) {R : Type} (b : Bool) (l : List ByteArray) (K : AV → Hp E → Option R) :
    runFnI (E := E) (O_impl_yjoin_w N) (noIt) sl_impl_yjoin_w J_impl_yjoin_w Go.Proofs.Try.f121 [(Go.Eng.AV.sc (Go.Eng.SV.slc 0 Option.none b))] [(Option.some (Go.Eng.HE.mk Bool.false (Go.Eng.HB.rows (Go.Sa.B.str l))))] K =
      g_impl_yjoin_w N b l (fun s => K (Go.Eng.AV.sc (Go.Eng.SV.str s)) [(Option.some (Go.Eng.HE.mk Bool.false (Go.Eng.HB.rows (Go.Sa.B.str l))))]) := by kernel_rfl
def o_impl_yjoin_w (N : Nat) {R : Type} (args : List AV) (H : Hp E) (K : AV → Hp E → Option R) : Option R :=
  match args, H with
  | [(Go.Eng.AV.sc (Go.Eng.SV.slc 0 Option.none b))], [(Option.some (Go.Eng.HE.mk Bool.false (Go.Eng.HB.rows (Go.Sa.B.str l))))] => g_impl_yjoin_w N b l (fun s => K (Go.Eng.AV.sc (Go.Eng.SV.str s)) [(Option.some (Go.Eng.HE.mk Bool.false (Go.Eng.HB.rows (Go.Sa.B.str l))))])
  | _, _ => none
theorem o_impl_yjoin_w_ok (N : Nat) : FnOk E 121 (o_impl_yjoin_w N) := by
  intro R args H K r h
  unfold o_impl_yjoin_w at h
  dsimp only at h
  split at h
  · exact fnB_ok (ids := []) (top := []) ok (O_impl_yjoin_w_ok N) (jn_ok _ _ _) Go.Proofs.Try.func121 (by kernel_rfl) (IT := noIt) (sl := sl_impl_yjoin_w) (J := J_impl_yjoin_w) (K := K) (H := [(Option.some (Go.Eng.HE.mk Bool.false (Go.Eng.HB.rows (Go.Sa.B.str _))))]) (noIt_ok) (by kernel_rfl) rfl ((e_impl_yjoin_w N _ _ K).trans h)
  · cases h
/-! ### loop.example/g00038/impl.ywholeSectors -/
abbrev sl_impl_ywholeSectors : SlotT := []
abbrev J_impl_ywholeSectors : JT := jn [] [] []
noncomputable def O_impl_ywholeSectors (N : Nat) : Orc E := addFn 169 osp_169 (noFn)
theorem O_impl_ywholeSectors_ok (N : Nat) : OrcOk (O_impl_ywholeSectors N) := addFn_ok osp_169_ok (noFn_ok)
def g_impl_ywholeSectors (N : Nat) {R : Type} (s : ByteArray) (k : ByteArray → Option R) : Option R :=
  (cond (Go.Eng.repOk (ByteArray.mk (List.toArray [(0 : UInt8)])) (Int.tmod (Go.IntKind.wrap Go.IntKind.i64 ((64 : Int) - (Int.tmod (((ByteArray.size s) : Nat) : Int) (64 : Int)))) (64 : Int)))
  (cond (Nat.ble ((ByteArray.size s) + (ByteArray.size (Go.Eng.repB (ByteArray.mk (List.toArray [(0 : UInt8)])) (Int.tmod (Go.IntKind.wrap Go.IntKind.i64 ((64 : Int) - (Int.tmod (((ByteArray.size s) : Nat) : Int) (64 : Int)))) (64 : Int))))) 9223372036854775807)
    (k (s ++ (Go.Eng.repB (ByteArray.mk (List.toArray [(0 : UInt8)])) (Int.tmod (Go.IntKind.wrap Go.IntKind.i64 ((64 : Int) - (Int.tmod (((ByteArray.size s) : Nat) : Int) (64 : Int)))) (64 : Int)))))
    none)
  none)
theorem e_impl_ywholeSectors (N : Nat) {R : Type} (s : ByteArray) (K : AV → Hp E → Option R) :
    runFnI (E := E) (O_impl_ywholeSectors N) (noIt) sl_impl_ywholeSectors J_impl_ywholeSectors Go.Proofs.Try.f123 [(Go.Eng.AV.sc (Go.Eng.SV.str s))] [] K =
      g_impl_ywholeSectors N s (fun s1 => K (Go.Eng.AV.sc (Go.Eng.SV.str s1)) []) := by kernel_rfl
def o_impl_ywholeSectors (N : Nat) {R : Type} (args : List AV) (H : Hp E) (K : AV → Hp E → Option R) : Option R :=
  match args, H with
  | [(Go.Eng.AV.sc (Go.Eng.SV.str s))], [] => g_impl_ywholeSectors N s (fun s1 => K (Go.Eng.AV.sc (Go.Eng.SV.str s1)) [])
  | _, _ => none
theorem o_impl_ywholeSectors_ok (N : Nat) : FnOk E 123 (o_impl_ywholeSectors N) := by
  intro R args H K r h
  unfold o_impl_ywholeSectors at h
  dsimp only at h
  split at h
  · exact fnB_ok (ids := []) (top := []) ok (O_impl_ywholeSectors_ok N) (jn_ok _ _ _) Go.Proofs.Try.func123 (by kernel_rfl) (IT := noIt) (sl := sl_impl_ywholeSectors) (J := J_impl_ywholeSectors) (K := K) (H := []) (noIt_ok) (by kernel_rfl) rfl ((e_impl_ywholeSectors N _ K).trans h)
  · cases h
/-! ### loop.example/g00038/impl.MakeBoot -/
abbrev sl_impl_MakeBoot_w : SlotT := []
abbrev J_impl_MakeBoot_w : JT := jn [(1, [(35, .b)])] [] []
noncomputable def O_impl_MakeBoot_w (N : Nat) : Orc E := addFn 123 (o_impl_ywholeSectors N) (addFn 121 (o_impl_yjoin_w N) (addFn 122 (o_impl_ymix N) (addFn 106 (o_impl_PutWord N) (addFn 120 (o_impl_yregsText_w N) (addFn 118 (o_slices_ContainsFunc_int64_Fimpl_MakeBoot_1_r N) (addFn 117 (o_impl_yisWord N) (addFn 96 (o_impl_yin N) (noFn))))))))
theorem O_impl_MakeBoot_w_ok (N : Nat) : OrcOk (O_impl_MakeBoot_w N) := addFn_ok (o_impl_ywholeSectors_ok N) (addFn_ok (o_impl_yjoin_w_ok N) (addFn_ok (o_impl_ymix_ok N) (addFn_ok (o_impl_PutWord_ok N) (addFn_ok (o_impl_yregsText_w_ok N) (addFn_ok (o_slices_ContainsFunc_int64_Fimpl_MakeBoot_1_r_ok N) (addFn_ok (o_impl_yisWord_ok N) (addFn_ok (o_impl_yin_ok N) (noFn_ok))))))))
def g_impl_MakeBoot_w (N : Nat) {R : Type} (b : Bool) (n : Int) (n1 : Int) (l : List Int) (k : ByteArray → (List Int) → Option R) : Option R :=
  (oK (cond ((Int.tmod n (4 : Int)) != (0 : Int))
    (some Bool.true)
    (g_impl_yin N n (0 : Int) (65535 : Int) fun b1 =>
      (cond (!b1)
      (some Bool.true)
      (g_impl_yisWord N n1 fun b2 =>
        (cond (!b2)
        (some Bool.true)
        (cond ((((List.length l) : Nat) : Int) == (0 : Int))
          (some Bool.true)
          (cond (decide (((((List.length l) : Nat) : Int) > (1000 : Int))))
            (some Bool.true)
            (g_slices_ContainsFunc_int64_Fimpl_MakeBoot_1_r N b l fun b3 =>
              (some b3))))))))) fun j =>
  (cond j
  (k (ByteArray.mk (List.toArray [])) l)
  (g_impl_yregsText_w N b l fun s l1 =>
    (g_impl_PutWord N n fun s1 =>
    (g_impl_PutWord N n1 fun s2 =>
    (g_impl_PutWord N (((List.length l1) : Nat) : Int) fun s3 =>
    (g_impl_ymix N s (71 : Int) fun n2 =>
    (g_impl_PutWord N n2 fun s4 =>
    (g_impl_yjoin_w N Bool.false [(ByteArray.mk (List.toArray [(66 : UInt8), (79 : UInt8), (79 : UInt8), (84 : UInt8)])), s1, s2, s3, s4] fun s5 =>
    (g_impl_ywholeSectors N s5 fun s6 =>
    (g_impl_ywholeSectors N s fun s7 =>
    (cond (Nat.ble ((ByteArray.size s6) + (ByteArray.size s7)) 9223372036854775807)
    (k (s6 ++ s7) l1)
    none))))))))))))
theorem e_impl_MakeBoot_w (N : Nat) {R : Type} (b : Bool) (n : Int) (n1 : Int) (l : List Int) (K : AV → Hp E → Option R) :
    runFnI (E := E) (O_impl_MakeBoot_w N) (noIt) sl_impl_MakeBoot_w J_impl_MakeBoot_w Go.Proofs.Try.f47 [(Go.Eng.AV.sc (Go.Eng.SV.slc 0 Option.none b)), (Go.Eng.AV.sc (Go.Eng.SV.int Go.IntKind.i64 n)), (Go.Eng.AV.sc (Go.Eng.SV.int Go.IntKind.i64 n1))] [(Option.some (Go.Eng.HE.mk Bool.false (Go.Eng.HB.rows (Go.Sa.B.i64 l))))] K =
      g_impl_MakeBoot_w N b n n1 l (fun s8 l2 => K (Go.Eng.AV.sc (Go.Eng.SV.str s8)) [(Option.some (Go.Eng.HE.mk Bool.false (Go.Eng.HB.rows (Go.Sa.B.i64 l2))))]) := by kernel_rfl
def o_impl_MakeBoot_w (N : Nat) {R : Type} (args : List AV) (H : Hp E) (K : AV → Hp E → Option R) : Option R :=
  match args, H with
  | [(Go.Eng.AV.sc (Go.Eng.SV.slc 0 Option.none b)), (Go.Eng.AV.sc (Go.Eng.SV.int Go.IntKind.i64 n)), (Go.Eng.AV.sc (Go.Eng.SV.int Go.IntKind.i64 n1))], [(Option.some (Go.Eng.HE.mk Bool.false (Go.Eng.HB.rows (Go.Sa.B.i64 l))))] => g_impl_MakeBoot_w N b n n1 l (fun s8 l2 => K (Go.Eng.AV.sc (Go.Eng.SV.str s8)) [(Option.some (Go.Eng.HE.mk Bool.false (Go.Eng.HB.rows (Go.Sa.B.i64 l2))))])
  | _, _ => none
theorem o_impl_MakeBoot_w_ok (N : Nat) : FnOk E 47 (o_impl_MakeBoot_w N) := by
  intro R args H K r h
  unfold o_impl_MakeBoot_w at h
  dsimp only at h
  split at h
  · exact fnB_ok (ids := []) (top := []) ok (O_impl_MakeBoot_w_ok N) (jn_ok _ _ _) Go.Proofs.Try.func47 (by kernel_rfl) (IT := noIt) (sl := sl_impl_MakeBoot_w) (J := J_impl_MakeBoot_w) (K := K) (H := [(Option.some (Go.Eng.HE.mk Bool.false (Go.Eng.HB.rows (Go.Sa.B.i64 _))))]) (noIt_ok) (by kernel_rfl) rfl ((e_impl_MakeBoot_w N _ _ _ _ K).trans h)
  · cases h
/-! ### loop.example/g00038/laws.eqInt64S -/
abbrev sl_laws_eqInt64S_ww : SlotT := [(0, ([0, 1, 5], [4]))]
abbrev J_laws_eqInt64S_ww : JT := jn [] [] []
noncomputable def O_laws_eqInt64S_ww (N : Nat) : Orc E := noFn
theorem O_laws_eqInt64S_ww_ok (N : Nat) : OrcOk (O_laws_eqInt64S_ww N) := noFn_ok
def s_laws_eqInt64S_ww_0 (N : Nat) {R : Type} (b2 : Bool) (b3 : Bool) (l2 : List Int) (l3 : List Int) (n : Int) (ag : Int → Option R)  (kR : Option R) (kN : Option R) : Option R :=
  (cond (decide ((n < (((List.length l2) : Nat) : Int))))
  (cond ((decide (((0 : Int) ≤ n))) && (decide ((n < (((List.length l2) : Nat) : Int)))))
    (elemK l2 (Int.toNat n) fun x =>
      (cond ((decide (((0 : Int) ≤ n))) && (decide ((n < (((List.length l3) : Nat) : Int)))))
      (elemK l3 (Int.toNat n) fun x1 =>
        (cond (x != x1)
        kR
        (ag (Go.IntKind.wrap Go.IntKind.i64 (n + (1 : Int))))))
      none))
    none)
  kN)
def l_laws_eqInt64S_ww_0 (N : Nat) {R : Type} (b2 : Bool) (b3 : Bool) (l2 : List Int) (l3 : List Int) (kR : Option R) (kN : Option R) : Nat → Int → Option R
  | 0, _ => none
  | f + 1, n => s_laws_eqInt64S_ww_0 N b2 b3 l2 l3 n (fun n => l_laws_eqInt64S_ww_0 N b2 b3 l2 l3 kR kN f n)  kR kN
def c_laws_eqInt64S_ww_0 (N : Nat) {R : Type} (b2 : Bool) (b3 : Bool) (l2 : List Int) (l3 : List Int) (n : Int) (kR : Option R) (kN : Option R) : Option R := l_laws_eqInt64S_ww_0 N b2 b3 l2 l3 kR kN N n
theorem se_laws_eqInt64S_ww_0 (N : Nat) {R : Type} (b2 : Bool) (b3 : Bool) (l2 : List Int) (l3 : List Int) (n : Int) (AG : List (Option AV) → Hp E → Option R) (KL : Ex → List (Option AV) → Hp E → Option R) :
    iterStep (E := E) (O_laws_eqInt64S_ww N) (fun {R} => LI (noIt) 2 26 sl_laws_eqInt64S_ww (R := R)) J_laws_eqInt64S_ww 2 26 0 [0, 1, 5] [4] (body Go.Proofs.Try.f48 0) AG KL [(Option.some (Go.Eng.AV.sc (Go.Eng.SV.slc 0 Option.none b2))), (Option.some (Go.Eng.AV.sc (Go.Eng.SV.slc 1 Option.none b3))), (Option.some (Go.Eng.AV.sc (Go.Eng.SV.int Go.IntKind.i64 n)))] [(Option.some (Go.Eng.HE.mk Bool.false (Go.Eng.HB.rows (Go.Sa.B.i64 l2)))), (Option.some (Go.Eng.HE.mk Bool.false (Go.Eng.HB.rows (Go.Sa.B.i64 l3))))] =
      s_laws_eqInt64S_ww_0 N b2 b3 l2 l3 n (fun n => AG [(Option.some (Go.Eng.AV.sc (Go.Eng.SV.slc 0 Option.none b2))), (Option.some (Go.Eng.AV.sc (Go.Eng.SV.slc 1 Option.none b3))), (Option.some (Go.Eng.AV.sc (Go.Eng.SV.int Go.IntKind.i64 n)))] [(Option.some (Go.Eng.HE.mk Bool.false (Go.Eng.HB.rows (Go.Sa.B.i64 l2)))), (Option.some (Go.Eng.HE.mk Bool.false (Go.Eng.HB.rows (Go.Sa.B.i64 l3))))])  (KL Go.Eng.Ex.ret [(Option.some (Go.Eng.AV.sc (Go.Eng.SV.bool Bool.false)))] [(Option.some (Go.Eng.HE.mk Bool.false (Go.Eng.HB.rows (Go.Sa.B.i64 l2)))), (Option.some (Go.Eng.HE.mk Bool.false (Go.Eng.HB.rows (Go.Sa.B.i64 l3))))]) (KL Go.Eng.Ex.normal [Option.none] [(Option.some (Go.Eng.HE.mk Bool.false (Go.Eng.HB.rows (Go.Sa.B.i64 l2)))), (Option.some (Go.Eng.HE.mk Bool.false (Go.Eng.HB.rows (Go.Sa.B.i64 l3))))]) := by kernel_rfl
theorem le_laws_eqInt64S_ww_0 (N : Nat) {R : Type} (b2 : Bool) (b3 : Bool) (l2 : List Int) (l3 : List Int) (KL : Ex → List (Option AV) → Hp E → Option R) : ∀ (f : Nat), ∀ (n : Int), iterK (E := E) (O_laws_eqInt64S_ww N) (fun {R} => LI (noIt) 2 26 sl_laws_eqInt64S_ww (R := R)) J_laws_eqInt64S_ww 2 26 0 [0, 1, 5] [4] (body Go.Proofs.Try.f48 0) f [(Option.some (Go.Eng.AV.sc (Go.Eng.SV.slc 0 Option.none b2))), (Option.some (Go.Eng.AV.sc (Go.Eng.SV.slc 1 Option.none b3))), (Option.some (Go.Eng.AV.sc (Go.Eng.SV.int Go.IntKind.i64 n)))] [(Option.some (Go.Eng.HE.mk Bool.false (Go.Eng.HB.rows (Go.Sa.B.i64 l2)))), (Option.some (Go.Eng.HE.mk Bool.false (Go.Eng.HB.rows (Go.Sa.B.i64 l3))))] KL = l_laws_eqInt64S_ww_0 N b2 b3 l2 l3 (KL Go.Eng.Ex.ret [(Option.some (Go.Eng.AV.sc (Go.Eng.SV.bool Bool.false)))] [(Option.some (Go.Eng.HE.mk Bool.false (Go.Eng.HB.rows (Go.Sa.B.i64 l2)))), (Option.some (Go.Eng.HE.mk Bool.false (Go.Eng.HB.rows (Go.Sa.B.i64 l3))))]) (KL Go.Eng.Ex.normal [Option.none] [(Option.some (Go.Eng.HE.mk Bool.false (Go.Eng.HB.rows (Go.Sa.B.i64 l2)))), (Option.some (Go.Eng.HE.mk Bool.false (Go.Eng.HB.rows (Go.Sa.B.i64 l3))))]) f n := by
  intro f
  induction f with
  | zero => intros; rfl
  | succ f ih =>
    intro n
    rw [iterK_succ, se_laws_eqInt64S_ww_0]
    exact (congrArg (fun z0 => s_laws_eqInt64S_ww_0 N b2 b3 l2 l3 n z0 (KL Go.Eng.Ex.ret [(Option.some (Go.Eng.AV.sc (Go.Eng.SV.bool Bool.false)))] [(Option.some (Go.Eng.HE.mk Bool.false (Go.Eng.HB.rows (Go.Sa.B.i64 l2)))), (Option.some (Go.Eng.HE.mk Bool.false (Go.Eng.HB.rows (Go.Sa.B.i64 l3))))]) (KL Go.Eng.Ex.normal [Option.none] [(Option.some (Go.Eng.HE.mk Bool.false (Go.Eng.HB.rows (Go.Sa.B.i64 l2)))), (Option.some (Go.Eng.HE.mk Bool.false (Go.Eng.HB.rows (Go.Sa.B.i64 l3))))])) (funext fun n => ih n))
def i_laws_eqInt64S_ww_0 (N : Nat) {R : Type} (vs : List (Option AV)) (H : Hp E) (KL : Ex → List (Option AV) → Hp E → Option R) : Option R :=
  match vs, H with
  | [(Option.some (Go.Eng.AV.sc (Go.Eng.SV.slc 0 Option.none b2))), (Option.some (Go.Eng.AV.sc (Go.Eng.SV.slc 1 Option.none b3))), (Option.some (Go.Eng.AV.sc (Go.Eng.SV.int Go.IntKind.i64 n)))], [(Option.some (Go.Eng.HE.mk Bool.false (Go.Eng.HB.rows (Go.Sa.B.i64 l2)))), (Option.some (Go.Eng.HE.mk Bool.false (Go.Eng.HB.rows (Go.Sa.B.i64 l3))))] => c_laws_eqInt64S_ww_0 N b2 b3 l2 l3 n (KL Go.Eng.Ex.ret [(Option.some (Go.Eng.AV.sc (Go.Eng.SV.bool Bool.false)))] [(Option.some (Go.Eng.HE.mk Bool.false (Go.Eng.HB.rows (Go.Sa.B.i64 l2)))), (Option.some (Go.Eng.HE.mk Bool.false (Go.Eng.HB.rows (Go.Sa.B.i64 l3))))]) (KL Go.Eng.Ex.normal [Option.none] [(Option.some (Go.Eng.HE.mk Bool.false (Go.Eng.HB.rows (Go.Sa.B.i64 l2)))), (Option.some (Go.Eng.HE.mk Bool.false (Go.Eng.HB.rows (Go.Sa.B.i64 l3))))])
  | _, _ => none
noncomputable def IT_laws_eqInt64S_ww_0 (N : Nat) : Its E := addIt 0 (i_laws_eqInt64S_ww_0 N) (noIt)
theorem IT_laws_eqInt64S_ww_0_ok (N : Nat) : ItOk (IT_laws_eqInt64S_ww_0 N) 2 26 sl_laws_eqInt64S_ww (lsB Go.Proofs.Try.f48 [0]) :=
  addItB_ok (inner := []) ok (O_laws_eqInt64S_ww_ok N) (jn_ok _ _ _) (noIt_ok) rfl (by kernel_rfl) rfl fun vs H KL r h => by
    unfold i_laws_eqInt64S_ww_0 at h
    split at h
    · exact ⟨_, (le_laws_eqInt64S_ww_0 N _ _ _ _ KL N _).trans h⟩
    · cases h
def g_laws_eqInt64S_ww (N : Nat) {R : Type} (b : Bool) (b1 : Bool) (l : List Int) (l1 : List Int) (k : Bool → Option R) : Option R :=
  (cond ((((List.length l) : Nat) : Int) != (((List.length l1) : Nat) : Int))
  (k Bool.false)
  (c_laws_eqInt64S_ww_0 N b b1 l l1 (0 : Int) (
    (k Bool.false)) (
    (k Bool.true))))
theorem e_laws_eqInt64S_ww (N : Nat) {R : Type} (b : Bool) (b1 : Bool) (l : List Int) (l1 : List Int) (K : AV → Hp E → Option R) :
    runFnI (E := E) (O_laws_eqInt64S_ww N) (IT_laws_eqInt64S_ww_0 N) sl_laws_eqInt64S_ww J_laws_eqInt64S_ww Go.Proofs.Try.f48 [(Go.Eng.AV.sc (Go.Eng.SV.slc 0 Option.none b)), (Go.Eng.AV.sc (Go.Eng.SV.slc 1 Option.none b1))] [(Option.some (Go.Eng.HE.mk Bool.false (Go.Eng.HB.rows (Go.Sa.B.i64 l)))), (Option.some (Go.Eng.HE.mk Bool.false (Go.Eng.HB.rows (Go.Sa.B.i64 l1))))] K =
      g_laws_eqInt64S_ww N b b1 l l1 (fun b4 => K (Go.Eng.AV.sc (Go.Eng.SV.bool b4)) [(Option.some (Go.Eng.HE.mk Bool.false (Go.Eng.HB.rows (Go.Sa.B.i64 l)))), (Option.some (Go.Eng.HE.mk Bool.false (Go.Eng.HB.rows (Go.Sa.B.i64 l1))))]) := by kernel_rfl
def o_laws_eqInt64S_ww (N : Nat) {R : Type} (args : List AV) (H : Hp E) (K : AV → Hp E → Option R) : Option R :=
  match args, H with
  | [(Go.Eng.AV.sc (Go.Eng.SV.slc 0 Option.none b)), (Go.Eng.AV.sc (Go.Eng.SV.slc 1 Option.none b1))], [(Option.some (Go.Eng.HE.mk Bool.false (Go.Eng.HB.rows (Go.Sa.B.i64 l)))), (Option.some (Go.Eng.HE.mk Bool.false (Go.Eng.HB.rows (Go.Sa.B.i64 l1))))] => g_laws_eqInt64S_ww N b b1 l l1 (fun b4 => K (Go.Eng.AV.sc (Go.Eng.SV.bool b4)) [(Option.some (Go.Eng.HE.mk Bool.false (Go.Eng.HB.rows (Go.Sa.B.i64 l)))), (Option.some (Go.Eng.HE.mk Bool.false (Go.Eng.HB.rows (Go.Sa.B.i64 l1))))])
  | _, _ => none
theorem o_laws_eqInt64S_ww_ok (N : Nat) : FnOk E 48 (o_laws_eqInt64S_ww N) := by
  intro R args H K r h
  unfold o_laws_eqInt64S_ww at h
  dsimp only at h
  split at h
  · exact fnB_ok (ids := [0]) (top := [0]) ok (O_laws_eqInt64S_ww_ok N) (jn_ok _ _ _) Go.Proofs.Try.func48 (by kernel_rfl) (IT := IT_laws_eqInt64S_ww_0 N) (sl := sl_laws_eqInt64S_ww) (J := J_laws_eqInt64S_ww) (K := K) (H := [(Option.some (Go.Eng.HE.mk Bool.false (Go.Eng.HB.rows (Go.Sa.B.i64 _)))), (Option.some (Go.Eng.HE.mk Bool.false (Go.Eng.HB.rows (Go.Sa.B.i64 _))))]) (IT_laws_eqInt64S_ww_0_ok N) (by kernel_rfl) rfl ((e_laws_eqInt64S_ww N _ _ _ _ K).trans h)
  · cases h
/-! ### loop.example/g00038/laws.FnExactMakeBoot -/
abbrev sl_laws_FnExactMakeBoot_r : SlotT := []
abbrev J_laws_FnExactMakeBoot_r : JT := jn [] [] []
noncomputable def O_laws_FnExactMakeBoot_r (N : Nat) : Orc E := addFn 48 (o_laws_eqInt64S_ww N) (addFn 47 (o_impl_MakeBoot_w N) (addFn 45 (o_spec_MakeBoot_w N) (addFn 46 (o_laws_toInt64S_r N) (noFn))))
theorem O_laws_FnExactMakeBoot_r_ok (N : Nat) : OrcOk (O_laws_FnExactMakeBoot_r N) := addFn_ok (o_laws_eqInt64S_ww_ok N) (addFn_ok (o_impl_MakeBoot_w_ok N) (addFn_ok (o_spec_MakeBoot_w_ok N) (addFn_ok (o_laws_toInt64S_r_ok N) (noFn_ok))))
def g_laws_FnExactMakeBoot_r (N : Nat) {R : Type} (b : Bool) (n : Int) (n1 : Int) (l : List Int) (k : Bool → Option R) : Option R :=
  (cond (decide (((((List.length l) : Nat) : Int) > (1048576 : Int))))
  (k Bool.true)
  (g_laws_toInt64S_r N b l fun l1 =>
    (g_spec_MakeBoot_w N Bool.false n n1 l1 fun s =>
    (g_laws_toInt64S_r N b l fun l2 =>
    (g_impl_MakeBoot_w N Bool.false n n1 l2 fun s1 l3 =>
    (cond (!(decide ((s1 = s))))
    (k Bool.false)
    (g_laws_toInt64S_r N b l fun l4 =>
      (g_laws_eqInt64S_ww N Bool.false Bool.false l3 l4 fun b1 =>
      (cond (!b1)
      (k Bool.false)
      (k Bool.true))))))))))
theorem e_laws_FnExactMakeBoot_r (N : Nat) {R : Type} (b : Bool) (n : Int) (n1 : Int) (l : List Int) (K : AV → Hp E → Option R) :
    runFnI (E := E) (O_laws_FnExactMakeBoot_r N) (noIt) sl_laws_FnExactMakeBoot_r J_laws_FnExactMakeBoot_r Go.Proofs.Try.f9 [(Go.Eng.AV.sc (Go.Eng.SV.slc 0 Option.none b)), (Go.Eng.AV.sc (Go.Eng.SV.int Go.IntKind.i64 n)), (Go.Eng.AV.sc (Go.Eng.SV.int Go.IntKind.i64 n1))] [(Option.some (Go.Eng.HE.mk Bool.true (Go.Eng.HB.rows (Go.Sa.B.i64 l))))] K =
      g_laws_FnExactMakeBoot_r N b n n1 l (fun b2 => K (Go.Eng.AV.sc (Go.Eng.SV.bool b2)) [(Option.some (Go.Eng.HE.mk Bool.true (Go.Eng.HB.rows (Go.Sa.B.i64 l))))]) := by kernel_rfl
def o_laws_FnExactMakeBoot_r (N : Nat) {R : Type} (args : List AV) (H : Hp E) (K : AV → Hp E → Option R) : Option R :=
  match args, H with
  | [(Go.Eng.AV.sc (Go.Eng.SV.slc 0 Option.none b)), (Go.Eng.AV.sc (Go.Eng.SV.int Go.IntKind.i64 n)), (Go.Eng.AV.sc (Go.Eng.SV.int Go.IntKind.i64 n1))], [(Option.some (Go.Eng.HE.mk Bool.true (Go.Eng.HB.rows (Go.Sa.B.i64 l))))] => g_laws_FnExactMakeBoot_r N b n n1 l (fun b2 => K (Go.Eng.AV.sc (Go.Eng.SV.bool b2)) [(Option.some (Go.Eng.HE.mk Bool.true (Go.Eng.HB.rows (Go.Sa.B.i64 l))))])
  | _, _ => none
theorem o_laws_FnExactMakeBoot_r_ok (N : Nat) : FnOk E 9 (o_laws_FnExactMakeBoot_r N) := by
  intro R args H K r h
  unfold o_laws_FnExactMakeBoot_r at h
  dsimp only at h
  split at h
  · exact fnB_ok (ids := []) (top := []) ok (O_laws_FnExactMakeBoot_r_ok N) (jn_ok _ _ _) Go.Proofs.Try.func9 (by kernel_rfl) (IT := noIt) (sl := sl_laws_FnExactMakeBoot_r) (J := J_laws_FnExactMakeBoot_r) (K := K) (H := [(Option.some (Go.Eng.HE.mk Bool.true (Go.Eng.HB.rows (Go.Sa.B.i64 _))))]) (noIt_ok) (by kernel_rfl) rfl ((e_laws_FnExactMakeBoot_r N _ _ _ _ K).trans h)
  · cases h
end Go.Sa
