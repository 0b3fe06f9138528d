import Derived.Test.YtjimjkhpahegjaaEnv
import Derived.Test.YtjimjkhpahegjaaPL
set_option linter.all false
namespace Go.Sa
open Go Go.Eng Go.Proofs
set_option maxRecDepth 100000
/-! ### loop.example/g00038/impl.yin -/
abbrev sl_impl_yin : SlotT := []
abbrev J_impl_yin : JT := jn [(1, [(6, .b)])] []
noncomputable def O_impl_yin (N : Nat) : Orc E := noFn
theorem O_impl_yin_ok (N : Nat) : OrcOk (O_impl_yin N) := noFn_ok
def g_impl_yin (N : Nat) {R : Type} (n : Int) (n1 : Int) (n2 : Int) (k : Bool → Option R) : Option R :=
  (oK (cond (decide ((n ≥ n1)))
    (some (decide ((n ≤ n2))))
    (some Bool.false)) fun j =>
  (k j))
theorem e_impl_yin (N : Nat) {R : Type} (n : Int) (n1 : Int) (n2 : Int) (K : AV → Hp E → Option R) :
    runFnI (E := E) (O_impl_yin N) (noIt) sl_impl_yin J_impl_yin Go.Proofs.Try.f71 [(Go.Eng.AV.sc (Go.Eng.SV.int Go.IntKind.i64 n)), (Go.Eng.AV.sc (Go.Eng.SV.int Go.IntKind.i64 n1)), (Go.Eng.AV.sc (Go.Eng.SV.int Go.IntKind.i64 n2))] [] K =
      g_impl_yin N n n1 n2 (fun b => K (Go.Eng.AV.sc (Go.Eng.SV.bool b)) []) := by kernel_rfl
def o_impl_yin (N : Nat) {R : Type} (args : List AV) (H : Hp E) (K : AV → Hp E → Option R) : Option R :=
  match args, H with
  | [(Go.Eng.AV.sc (Go.Eng.SV.int Go.IntKind.i64 n)), (Go.Eng.AV.sc (Go.Eng.SV.int Go.IntKind.i64 n1)), (Go.Eng.AV.sc (Go.Eng.SV.int Go.IntKind.i64 n2))], [] => g_impl_yin N n n1 n2 (fun b => K (Go.Eng.AV.sc (Go.Eng.SV.bool b)) [])
  | _, _ => none
theorem o_impl_yin_ok (N : Nat) : FnOk E 71 (o_impl_yin N) := by
  intro R args H K r h
  unfold o_impl_yin at h
  dsimp only at h
  split at h
  · exact fnB_ok (ids := []) (top := []) ok (O_impl_yin_ok N) (jn_ok _ _) Go.Proofs.Try.func71 (by kernel_rfl) (IT := noIt) (sl := sl_impl_yin) (J := J_impl_yin) (K := K) (H := []) (noIt_ok) (by kernel_rfl) rfl ((e_impl_yin N _ _ _ K).trans h)
  · cases h
/-! ### loop.example/g00038/laws.szDeviceS -/
abbrev sl_laws_szDeviceS_r : SlotT := []
abbrev J_laws_szDeviceS_r : JT := jn [] []
noncomputable def O_laws_szDeviceS_r (N : Nat) : Orc E := noFn
theorem O_laws_szDeviceS_r_ok (N : Nat) : OrcOk (O_laws_szDeviceS_r N) := noFn_ok
def g_laws_szDeviceS_r (N : Nat) {R : Type} (b : Bool) (n : Int) (l : List Go.Sa.Device) (k : Int → Option R) : Option R :=
  (cond (decide (((Go.IntKind.wrap Go.IntKind.i64 (n - (((List.length l) : Nat) : Int))) < (0 : Int))))
  (k (-(1 : Int)))
  (k (Go.IntKind.wrap Go.IntKind.i64 (n - (((List.length l) : Nat) : Int)))))
theorem e_laws_szDeviceS_r (N : Nat) {R : Type} (b : Bool) (n : Int) (l : List Go.Sa.Device) (K : AV → Hp E → Option R) :
    runFnI (E := E) (O_laws_szDeviceS_r N) (noIt) sl_laws_szDeviceS_r J_laws_szDeviceS_r Go.Proofs.Try.f77 [(Go.Eng.AV.sc (Go.Eng.SV.slc 0 Option.none b)), (Go.Eng.AV.sc (Go.Eng.SV.int Go.IntKind.i64 n))] [(Option.some (Go.Eng.HE.mk Bool.true (Go.Eng.HB.rows (Go.Sa.B.lDevice l))))] K =
      g_laws_szDeviceS_r N b n l (fun n1 => K (Go.Eng.AV.sc (Go.Eng.SV.int Go.IntKind.i64 n1)) [(Option.some (Go.Eng.HE.mk Bool.true (Go.Eng.HB.rows (Go.Sa.B.lDevice l))))]) := by kernel_rfl
def o_laws_szDeviceS_r (N : Nat) {R : Type} (args : List AV) (H : Hp E) (K : AV → Hp E → Option R) : Option R :=
  match args, H with
  | [(Go.Eng.AV.sc (Go.Eng.SV.slc 0 Option.none b)), (Go.Eng.AV.sc (Go.Eng.SV.int Go.IntKind.i64 n))], [(Option.some (Go.Eng.HE.mk Bool.true (Go.Eng.HB.rows (Go.Sa.B.lDevice l))))] => g_laws_szDeviceS_r N b n l (fun n1 => K (Go.Eng.AV.sc (Go.Eng.SV.int Go.IntKind.i64 n1)) [(Option.some (Go.Eng.HE.mk Bool.true (Go.Eng.HB.rows (Go.Sa.B.lDevice l))))])
  | _, _ => none
theorem o_laws_szDeviceS_r_ok (N : Nat) : FnOk E 77 (o_laws_szDeviceS_r N) := by
  intro R args H K r h
  unfold o_laws_szDeviceS_r at h
  dsimp only at h
  split at h
  · exact fnB_ok (ids := []) (top := []) ok (O_laws_szDeviceS_r_ok N) (jn_ok _ _) Go.Proofs.Try.func77 (by kernel_rfl) (IT := noIt) (sl := sl_laws_szDeviceS_r) (J := J_laws_szDeviceS_r) (K := K) (H := [(Option.some (Go.Eng.HE.mk Bool.true (Go.Eng.HB.rows (Go.Sa.B.lDevice _))))]) (noIt_ok) (by kernel_rfl) rfl ((e_laws_szDeviceS_r N _ _ _ K).trans h)
  · cases h
/-! ### loop.example/g00038/laws.szBoard -/
abbrev sl_laws_szBoard_r : SlotT := []
abbrev J_laws_szBoard_r : JT := jn [] []
noncomputable def O_laws_szBoard_r (N : Nat) : Orc E := addFn 77 (o_laws_szDeviceS_r N) (noFn)
theorem O_laws_szBoard_r_ok (N : Nat) : OrcOk (O_laws_szBoard_r N) := addFn_ok (o_laws_szDeviceS_r_ok N) (noFn_ok)
def g_laws_szBoard_r (N : Nat) {R : Type} (n : Int) (n1 : Int) (b : Bool) (n2 : Int) (l : List Go.Sa.Device) (k : Int → Option R) : Option R :=
  (g_laws_szDeviceS_r N b n2 l fun n3 =>
  (cond (decide ((n3 < (0 : Int))))
  (k (-(1 : Int)))
  (k n3)))
theorem e_laws_szBoard_r (N : Nat) {R : Type} (n : Int) (n1 : Int) (b : Bool) (n2 : Int) (l : List Go.Sa.Device) (K : AV → Hp E → Option R) :
    runFnI (E := E) (O_laws_szBoard_r N) (noIt) sl_laws_szBoard_r J_laws_szBoard_r Go.Proofs.Try.f24 [(Go.Eng.AV.agg [(Go.Eng.SV.int Go.IntKind.i64 n), (Go.Eng.SV.int Go.IntKind.i64 n1), (Go.Eng.SV.slc 0 Option.none b)]), (Go.Eng.AV.sc (Go.Eng.SV.int Go.IntKind.i64 n2))] [(Option.some (Go.Eng.HE.mk Bool.true (Go.Eng.HB.rows (Go.Sa.B.lDevice l))))] K =
      g_laws_szBoard_r N n n1 b n2 l (fun n4 => K (Go.Eng.AV.sc (Go.Eng.SV.int Go.IntKind.i64 n4)) [(Option.some (Go.Eng.HE.mk Bool.true (Go.Eng.HB.rows (Go.Sa.B.lDevice l))))]) := by kernel_rfl
def o_laws_szBoard_r (N : Nat) {R : Type} (args : List AV) (H : Hp E) (K : AV → Hp E → Option R) : Option R :=
  match args, H with
  | [(Go.Eng.AV.agg [(Go.Eng.SV.int Go.IntKind.i64 n), (Go.Eng.SV.int Go.IntKind.i64 n1), (Go.Eng.SV.slc 0 Option.none b)]), (Go.Eng.AV.sc (Go.Eng.SV.int Go.IntKind.i64 n2))], [(Option.some (Go.Eng.HE.mk Bool.true (Go.Eng.HB.rows (Go.Sa.B.lDevice l))))] => g_laws_szBoard_r N n n1 b n2 l (fun n4 => K (Go.Eng.AV.sc (Go.Eng.SV.int Go.IntKind.i64 n4)) [(Option.some (Go.Eng.HE.mk Bool.true (Go.Eng.HB.rows (Go.Sa.B.lDevice l))))])
  | _, _ => none
theorem o_laws_szBoard_r_ok (N : Nat) : FnOk E 24 (o_laws_szBoard_r N) := by
  intro R args H K r h
  unfold o_laws_szBoard_r at h
  dsimp only at h
  split at h
  · exact fnB_ok (ids := []) (top := []) ok (O_laws_szBoard_r_ok N) (jn_ok _ _) Go.Proofs.Try.func24 (by kernel_rfl) (IT := noIt) (sl := sl_laws_szBoard_r) (J := J_laws_szBoard_r) (K := K) (H := [(Option.some (Go.Eng.HE.mk Bool.true (Go.Eng.HB.rows (Go.Sa.B.lDevice _))))]) (noIt_ok) (by kernel_rfl) rfl ((e_laws_szBoard_r N _ _ _ _ _ K).trans h)
  · cases h
/-! ### loop.example/g00038/laws.toDevice -/
abbrev sl_laws_toDevice : SlotT := []
abbrev J_laws_toDevice : JT := jn [] []
noncomputable def O_laws_toDevice (N : Nat) : Orc E := noFn
theorem O_laws_toDevice_ok (N : Nat) : OrcOk (O_laws_toDevice N) := noFn_ok
def g_laws_toDevice (N : Nat) {R : Type} (n : Int) (n1 : Int) (n2 : Int) (k : Option R) : Option R :=
  k
theorem e_laws_toDevice (N : Nat) {R : Type} (n : Int) (n1 : Int) (n2 : Int) (K : AV → Hp E → Option R) :
    runFnI (E := E) (O_laws_toDevice N) (noIt) sl_laws_toDevice J_laws_toDevice Go.Proofs.Try.f134 [(Go.Eng.AV.agg [(Go.Eng.SV.int Go.IntKind.i64 n), (Go.Eng.SV.int Go.IntKind.i64 n1), (Go.Eng.SV.int Go.IntKind.i64 n2)])] [] K =
      g_laws_toDevice N n n1 n2 (K (Go.Eng.AV.agg [(Go.Eng.SV.int Go.IntKind.i64 n), (Go.Eng.SV.int Go.IntKind.i64 n1), (Go.Eng.SV.int Go.IntKind.i64 n2)]) []) := by kernel_rfl
def o_laws_toDevice (N : Nat) {R : Type} (args : List AV) (H : Hp E) (K : AV → Hp E → Option R) : Option R :=
  match args, H with
  | [(Go.Eng.AV.agg [(Go.Eng.SV.int Go.IntKind.i64 n), (Go.Eng.SV.int Go.IntKind.i64 n1), (Go.Eng.SV.int Go.IntKind.i64 n2)])], [] => g_laws_toDevice N n n1 n2 (K (Go.Eng.AV.agg [(Go.Eng.SV.int Go.IntKind.i64 n), (Go.Eng.SV.int Go.IntKind.i64 n1), (Go.Eng.SV.int Go.IntKind.i64 n2)]) [])
  | _, _ => none
theorem o_laws_toDevice_ok (N : Nat) : FnOk E 134 (o_laws_toDevice N) := by
  intro R args H K r h
  unfold o_laws_toDevice at h
  dsimp only at h
  split at h
  · exact fnB_ok (ids := []) (top := []) ok (O_laws_toDevice_ok N) (jn_ok _ _) Go.Proofs.Try.func134 (by kernel_rfl) (IT := noIt) (sl := sl_laws_toDevice) (J := J_laws_toDevice) (K := K) (H := []) (noIt_ok) (by kernel_rfl) rfl ((e_laws_toDevice N _ _ _ K).trans h)
  · cases h
/-! ### loop.example/g00038/laws.toDeviceS -/
abbrev sl_laws_toDeviceS_r : SlotT := [(0, ([0, 3, 4], [3]))]
abbrev J_laws_toDeviceS_r : JT := jn [] []
noncomputable def O_laws_toDeviceS_r (N : Nat) : Orc E := addFn 134 (o_laws_toDevice N) (noFn)
theorem O_laws_toDeviceS_r_ok (N : Nat) : OrcOk (O_laws_toDeviceS_r N) := addFn_ok (o_laws_toDevice_ok N) (noFn_ok)
def s_laws_toDeviceS_r_0 (N : Nat) {R : Type} (b1 : Bool) (b2 : Bool) (l1 : List Go.Sa.Device) (n : Int) (l2 : List Go.Sa.Device) (ag : Int → (List Go.Sa.Device) → Option R) (kN : (List Go.Sa.Device) → Option R) : Option R :=
  (cond (decide ((n < (((List.length l1) : Nat) : Int))))
  (cond ((decide (((0 : Int) ≤ n))) && (decide ((n < (((List.length l1) : Nat) : Int)))))
    (elemK l1 (Int.toNat n) fun x =>
      (g_laws_toDevice N (Go.Sa.Device.fKind x) (Go.Sa.Device.fPort x) (Go.Sa.Device.fLine x) 
      (cond ((decide (((0 : Int) ≤ n))) && (decide ((n < (((List.length l2) : Nat) : Int)))))
      (elemK l2 (Int.toNat n) fun x1 =>
        (cond (Nat.blt (Int.toNat n) (List.length l2))
        (ag (Go.IntKind.wrap Go.IntKind.i64 (n + (1 : Int))) (Go.Eng.nset l2 (Int.toNat n) (Go.Sa.Device.mk (Go.Sa.Device.fKind x) (Go.Sa.Device.fPort x) (Go.Sa.Device.fLine x))))
        none))
      none)))
    none)
  (kN l2))
def l_laws_toDeviceS_r_0 (N : Nat) {R : Type} (b1 : Bool) (b2 : Bool) (l1 : List Go.Sa.Device) (kN : (List Go.Sa.Device) → Option R) : Nat → Int → (List Go.Sa.Device) → Option R
  | 0, _, _ => none
  | f + 1, n, l2 => s_laws_toDeviceS_r_0 N b1 b2 l1 n l2 (fun n l2 => l_laws_toDeviceS_r_0 N b1 b2 l1 kN f n l2) kN
def c_laws_toDeviceS_r_0 (N : Nat) {R : Type} (b1 : Bool) (b2 : Bool) (l1 : List Go.Sa.Device) (n : Int) (l2 : List Go.Sa.Device) (kN : (List Go.Sa.Device) → Option R) : Option R := l_laws_toDeviceS_r_0 N b1 b2 l1 kN N n l2
theorem se_laws_toDeviceS_r_0 (N : Nat) {R : Type} (b1 : Bool) (b2 : Bool) (l1 : List Go.Sa.Device) (n : Int) (l2 : List Go.Sa.Device) (AG : List (Option AV) → Hp E → Option R) (KL : Ex → List (Option AV) → Hp E → Option R) :
    iterStep (E := E) (O_laws_toDeviceS_r N) (fun {R} => LI (noIt) 1 23 sl_laws_toDeviceS_r (R := R)) J_laws_toDeviceS_r 1 23 0 [0, 3, 4] [3] (body Go.Proofs.Try.f78 0) AG KL [(Option.some (Go.Eng.AV.sc (Go.Eng.SV.slc 0 Option.none b1))), (Option.some (Go.Eng.AV.sc (Go.Eng.SV.slc 1 Option.none b2))), (Option.some (Go.Eng.AV.sc (Go.Eng.SV.int Go.IntKind.i64 n)))] [(Option.some (Go.Eng.HE.mk Bool.true (Go.Eng.HB.rows (Go.Sa.B.lDevice l1)))), (Option.some (Go.Eng.HE.mk Bool.false (Go.Eng.HB.rows (Go.Sa.B.iDevice l2))))] =
      s_laws_toDeviceS_r_0 N b1 b2 l1 n l2 (fun n l2 => AG [(Option.some (Go.Eng.AV.sc (Go.Eng.SV.slc 0 Option.none b1))), (Option.some (Go.Eng.AV.sc (Go.Eng.SV.slc 1 Option.none b2))), (Option.some (Go.Eng.AV.sc (Go.Eng.SV.int Go.IntKind.i64 n)))] [(Option.some (Go.Eng.HE.mk Bool.true (Go.Eng.HB.rows (Go.Sa.B.lDevice l1)))), (Option.some (Go.Eng.HE.mk Bool.false (Go.Eng.HB.rows (Go.Sa.B.iDevice l2))))]) (fun l3 => KL Go.Eng.Ex.normal [(Option.some (Go.Eng.AV.sc (Go.Eng.SV.slc 1 Option.none b2)))] [(Option.some (Go.Eng.HE.mk Bool.true (Go.Eng.HB.rows (Go.Sa.B.lDevice l1)))), (Option.some (Go.Eng.HE.mk Bool.false (Go.Eng.HB.rows (Go.Sa.B.iDevice l3))))]) := by kernel_rfl
theorem le_laws_toDeviceS_r_0 (N : Nat) {R : Type} (b1 : Bool) (b2 : Bool) (l1 : List Go.Sa.Device) (KL : Ex → List (Option AV) → Hp E → Option R) : ∀ (f : Nat), ∀ (n : Int) (l2 : List Go.Sa.Device), iterK (E := E) (O_laws_toDeviceS_r N) (fun {R} => LI (noIt) 1 23 sl_laws_toDeviceS_r (R := R)) J_laws_toDeviceS_r 1 23 0 [0, 3, 4] [3] (body Go.Proofs.Try.f78 0) f [(Option.some (Go.Eng.AV.sc (Go.Eng.SV.slc 0 Option.none b1))), (Option.some (Go.Eng.AV.sc (Go.Eng.SV.slc 1 Option.none b2))), (Option.some (Go.Eng.AV.sc (Go.Eng.SV.int Go.IntKind.i64 n)))] [(Option.some (Go.Eng.HE.mk Bool.true (Go.Eng.HB.rows (Go.Sa.B.lDevice l1)))), (Option.some (Go.Eng.HE.mk Bool.false (Go.Eng.HB.rows (Go.Sa.B.iDevice l2))))] KL = l_laws_toDeviceS_r_0 N b1 b2 l1 (fun l3 => KL Go.Eng.Ex.normal [(Option.some (Go.Eng.AV.sc (Go.Eng.SV.slc 1 Option.none b2)))] [(Option.some (Go.Eng.HE.mk Bool.true (Go.Eng.HB.rows (Go.Sa.B.lDevice l1)))), (Option.some (Go.Eng.HE.mk Bool.false (Go.Eng.HB.rows (Go.Sa.B.iDevice l3))))]) f n l2 := by
  intro f
  induction f with
  | zero => intros; rfl
  | succ f ih =>
    intro n l2
    rw [iterK_succ, se_laws_toDeviceS_r_0]
    exact congrArg (fun ag => s_laws_toDeviceS_r_0 N b1 b2 l1 n l2 ag (fun l3 => KL Go.Eng.Ex.normal [(Option.some (Go.Eng.AV.sc (Go.Eng.SV.slc 1 Option.none b2)))] [(Option.some (Go.Eng.HE.mk Bool.true (Go.Eng.HB.rows (Go.Sa.B.lDevice l1)))), (Option.some (Go.Eng.HE.mk Bool.false (Go.Eng.HB.rows (Go.Sa.B.iDevice l3))))])) (funext fun n => funext fun l2 => ih n l2)
def i_laws_toDeviceS_r_0 (N : Nat) {R : Type} (vs : List (Option AV)) (H : Hp E) (KL : Ex → List (Option AV) → Hp E → Option R) : Option R :=
  match vs, H with
  | [(Option.some (Go.Eng.AV.sc (Go.Eng.SV.slc 0 Option.none b1))), (Option.some (Go.Eng.AV.sc (Go.Eng.SV.slc 1 Option.none b2))), (Option.some (Go.Eng.AV.sc (Go.Eng.SV.int Go.IntKind.i64 n)))], [(Option.some (Go.Eng.HE.mk Bool.true (Go.Eng.HB.rows (Go.Sa.B.lDevice l1)))), (Option.some (Go.Eng.HE.mk Bool.false (Go.Eng.HB.rows (Go.Sa.B.iDevice l2))))] => c_laws_toDeviceS_r_0 N b1 b2 l1 n l2 (fun l3 => KL Go.Eng.Ex.normal [(Option.some (Go.Eng.AV.sc (Go.Eng.SV.slc 1 Option.none b2)))] [(Option.some (Go.Eng.HE.mk Bool.true (Go.Eng.HB.rows (Go.Sa.B.lDevice l1)))), (Option.some (Go.Eng.HE.mk Bool.false (Go.Eng.HB.rows (Go.Sa.B.iDevice l3))))])
  | _, _ => none
noncomputable def IT_laws_toDeviceS_r_0 (N : Nat) : Its E := addIt 0 (i_laws_toDeviceS_r_0 N) (noIt)
theorem IT_laws_toDeviceS_r_0_ok (N : Nat) : ItOk (IT_laws_toDeviceS_r_0 N) 1 23 sl_laws_toDeviceS_r (lsB Go.Proofs.Try.f78 [0]) :=
  addItB_ok (inner := []) ok (O_laws_toDeviceS_r_ok N) (jn_ok _ _) (noIt_ok) rfl (by kernel_rfl) rfl fun vs H KL r h => by
    unfold i_laws_toDeviceS_r_0 at h
    split at h
    · exact ⟨_, (le_laws_toDeviceS_r_0 N _ _ _ KL N _ _).trans h⟩
    · cases h
def g_laws_toDeviceS_r (N : Nat) {R : Type} (b : Bool) (l : List Go.Sa.Device) (k : (List Go.Sa.Device) → Option R) : Option R :=
  (cond (((decide (((((List.length l) : Nat) : Int) = (((List.length l) : Nat) : Int)))) && Bool.true) && (Go.Eng.roomOk (Int.toNat (((List.length l) : Nat) : Int)) 24))
  (c_laws_toDeviceS_r_0 N b Bool.false l (0 : Int) (List.replicate (Int.toNat (((List.length l) : Nat) : Int)) (Go.Sa.Device.mk (0 : Int) (0 : Int) (0 : Int))) fun l4 =>
    (k l4))
  none)
theorem e_laws_toDeviceS_r (N : Nat) {R : Type} (b : Bool) (l : List Go.Sa.Device) (K : AV → Hp E → Option R) :
    runFnI (E := E) (O_laws_toDeviceS_r N) (IT_laws_toDeviceS_r_0 N) sl_laws_toDeviceS_r J_laws_toDeviceS_r Go.Proofs.Try.f78 [(Go.Eng.AV.sc (Go.Eng.SV.slc 0 Option.none b))] [(Option.some (Go.Eng.HE.mk Bool.true (Go.Eng.HB.rows (Go.Sa.B.lDevice l))))] K =
      g_laws_toDeviceS_r N b l (fun l5 => K (Go.Eng.AV.sc (Go.Eng.SV.slc 1 Option.none Bool.false)) [(Option.some (Go.Eng.HE.mk Bool.true (Go.Eng.HB.rows (Go.Sa.B.lDevice l)))), (Option.some (Go.Eng.HE.mk Bool.false (Go.Eng.HB.rows (Go.Sa.B.iDevice l5))))]) := by kernel_rfl
def o_laws_toDeviceS_r (N : Nat) {R : Type} (args : List AV) (H : Hp E) (K : AV → Hp E → Option R) : Option R :=
  match args, H with
  | [(Go.Eng.AV.sc (Go.Eng.SV.slc 0 Option.none b))], [(Option.some (Go.Eng.HE.mk Bool.true (Go.Eng.HB.rows (Go.Sa.B.lDevice l))))] => g_laws_toDeviceS_r N b l (fun l5 => K (Go.Eng.AV.sc (Go.Eng.SV.slc 1 Option.none Bool.false)) [(Option.some (Go.Eng.HE.mk Bool.true (Go.Eng.HB.rows (Go.Sa.B.lDevice l)))), (Option.some (Go.Eng.HE.mk Bool.false (Go.Eng.HB.rows (Go.Sa.B.iDevice l5))))])
  | _, _ => none
theorem o_laws_toDeviceS_r_ok (N : Nat) : FnOk E 78 (o_laws_toDeviceS_r N) := by
  intro R args H K r h
  unfold o_laws_toDeviceS_r at h
  dsimp only at h
  split at h
  · exact fnB_ok (ids := [0]) (top := [0]) ok (O_laws_toDeviceS_r_ok N) (jn_ok _ _) Go.Proofs.Try.func78 (by kernel_rfl) (IT := IT_laws_toDeviceS_r_0 N) (sl := sl_laws_toDeviceS_r) (J := J_laws_toDeviceS_r) (K := K) (H := [(Option.some (Go.Eng.HE.mk Bool.true (Go.Eng.HB.rows (Go.Sa.B.lDevice _))))]) (IT_laws_toDeviceS_r_0_ok N) (by kernel_rfl) rfl ((e_laws_toDeviceS_r N _ _ K).trans h)
  · cases h
/-! ### loop.example/g00038/laws.toBoard -/
abbrev sl_laws_toBoard_r : SlotT := []
abbrev J_laws_toBoard_r : JT := jn [] []
noncomputable def O_laws_toBoard_r (N : Nat) : Orc E := addFn 78 (o_laws_toDeviceS_r N) (noFn)
theorem O_laws_toBoard_r_ok (N : Nat) : OrcOk (O_laws_toBoard_r N) := addFn_ok (o_laws_toDeviceS_r_ok N) (noFn_ok)
def g_laws_toBoard_r (N : Nat) {R : Type} (n : Int) (n1 : Int) (b : Bool) (l : List Go.Sa.Device) (k : (List Go.Sa.Device) → Option R) : Option R :=
  (g_laws_toDeviceS_r N b l fun l1 =>
  (k l1))
theorem e_laws_toBoard_r (N : Nat) {R : Type} (n : Int) (n1 : Int) (b : Bool) (l : List Go.Sa.Device) (K : AV → Hp E → Option R) :
    runFnI (E := E) (O_laws_toBoard_r N) (noIt) sl_laws_toBoard_r J_laws_toBoard_r Go.Proofs.Try.f26 [(Go.Eng.AV.agg [(Go.Eng.SV.int Go.IntKind.i64 n), (Go.Eng.SV.int Go.IntKind.i64 n1), (Go.Eng.SV.slc 0 Option.none b)])] [(Option.some (Go.Eng.HE.mk Bool.true (Go.Eng.HB.rows (Go.Sa.B.lDevice l))))] K =
      g_laws_toBoard_r N n n1 b l (fun l2 => K (Go.Eng.AV.agg [(Go.Eng.SV.int Go.IntKind.i64 n), (Go.Eng.SV.int Go.IntKind.i64 n1), (Go.Eng.SV.slc 1 Option.none Bool.false)]) [(Option.some (Go.Eng.HE.mk Bool.true (Go.Eng.HB.rows (Go.Sa.B.lDevice l)))), (Option.some (Go.Eng.HE.mk Bool.false (Go.Eng.HB.rows (Go.Sa.B.iDevice l2))))]) := by kernel_rfl
def o_laws_toBoard_r (N : Nat) {R : Type} (args : List AV) (H : Hp E) (K : AV → Hp E → Option R) : Option R :=
  match args, H with
  | [(Go.Eng.AV.agg [(Go.Eng.SV.int Go.IntKind.i64 n), (Go.Eng.SV.int Go.IntKind.i64 n1), (Go.Eng.SV.slc 0 Option.none b)])], [(Option.some (Go.Eng.HE.mk Bool.true (Go.Eng.HB.rows (Go.Sa.B.lDevice l))))] => g_laws_toBoard_r N n n1 b l (fun l2 => K (Go.Eng.AV.agg [(Go.Eng.SV.int Go.IntKind.i64 n), (Go.Eng.SV.int Go.IntKind.i64 n1), (Go.Eng.SV.slc 1 Option.none Bool.false)]) [(Option.some (Go.Eng.HE.mk Bool.true (Go.Eng.HB.rows (Go.Sa.B.lDevice l)))), (Option.some (Go.Eng.HE.mk Bool.false (Go.Eng.HB.rows (Go.Sa.B.iDevice l2))))])
  | _, _ => none
theorem o_laws_toBoard_r_ok (N : Nat) : FnOk E 26 (o_laws_toBoard_r N) := by
  intro R args H K r h
  unfold o_laws_toBoard_r at h
  dsimp only at h
  split at h
  · exact fnB_ok (ids := []) (top := []) ok (O_laws_toBoard_r_ok N) (jn_ok _ _) Go.Proofs.Try.func26 (by kernel_rfl) (IT := noIt) (sl := sl_laws_toBoard_r) (J := J_laws_toBoard_r) (K := K) (H := [(Option.some (Go.Eng.HE.mk Bool.true (Go.Eng.HB.rows (Go.Sa.B.lDevice _))))]) (noIt_ok) (by kernel_rfl) rfl ((e_laws_toBoard_r N _ _ _ _ K).trans h)
  · cases h
/-! ### loop.example/g00038/spec.BoardFault -/
abbrev sl_spec_BoardFault_w : SlotT := [(0, ([1, 3], [2]))]
abbrev J_spec_BoardFault_w : JT := jn [(1, [(28, .b)]), (7, [(84, .b)])] []
noncomputable def O_spec_BoardFault_w (N : Nat) : Orc E := noFn
theorem O_spec_BoardFault_w_ok (N : Nat) : OrcOk (O_spec_BoardFault_w N) := noFn_ok
def s_spec_BoardFault_w_0 (N : Nat) {R : Type} (l1 : List Go.Sa.Device) (n3 : Int) (n4 : Int) (b1 : Bool) (n2 : Int) (ag : Int → Option R) (kR : Option R) (kN : Option R) : Option R :=
  (cond (decide ((n2 < (((List.length l1) : Nat) : Int))))
  (cond ((decide (((0 : Int) ≤ n2))) && (decide ((n2 < (((List.length l1) : Nat) : Int)))))
    (elemK l1 (Int.toNat n2) fun x =>
      (oK (cond (decide (((Go.Sa.Device.fKind x) < (1 : Int))))
        (some Bool.true)
        (cond (decide (((Go.Sa.Device.fKind x) > (255 : Int))))
          (some Bool.true)
          (cond (decide (((Go.Sa.Device.fPort x) < (0 : Int))))
            (some Bool.true)
            (cond (decide (((Go.Sa.Device.fPort x) > (2047 : Int))))
              (some Bool.true)
              (cond (decide (((Go.Sa.Device.fLine x) < (0 : Int))))
                (some Bool.true)
                (cond (decide (((Go.Sa.Device.fLine x) > (6 : Int))))
                  (some Bool.true)
                  (cond (decide ((n2 > (0 : Int))))
                    (cond ((decide (((0 : Int) ≤ (Go.IntKind.wrap Go.IntKind.i64 (n2 - (1 : Int)))))) && (decide (((Go.IntKind.wrap Go.IntKind.i64 (n2 - (1 : Int))) < (((List.length l1) : Nat) : Int)))))
                      (elemK l1 (Int.toNat (Go.IntKind.wrap Go.IntKind.i64 (n2 - (1 : Int)))) fun x1 =>
                        (some (decide (((Go.Sa.Device.fPort x1) ≥ (Go.Sa.Device.fPort x))))))
                      none)
                    (some Bool.false)))))))) fun j1 =>
      (cond j1
      kR
      (ag (Go.IntKind.wrap Go.IntKind.i64 (n2 + (1 : Int)))))))
    none)
  kN)
def l_spec_BoardFault_w_0 (N : Nat) {R : Type} (l1 : List Go.Sa.Device) (n3 : Int) (n4 : Int) (b1 : Bool) (kR : Option R) (kN : Option R) : Nat → Int → Option R
  | 0, _ => none
  | f + 1, n2 => s_spec_BoardFault_w_0 N l1 n3 n4 b1 n2 (fun n2 => l_spec_BoardFault_w_0 N l1 n3 n4 b1 kR kN f n2) kR kN
def c_spec_BoardFault_w_0 (N : Nat) {R : Type} (l1 : List Go.Sa.Device) (n3 : Int) (n4 : Int) (b1 : Bool) (n2 : Int) (kR : Option R) (kN : Option R) : Option R := l_spec_BoardFault_w_0 N l1 n3 n4 b1 kR kN N n2
theorem se_spec_BoardFault_w_0 (N : Nat) {R : Type} (l1 : List Go.Sa.Device) (n3 : Int) (n4 : Int) (b1 : Bool) (n2 : Int) (AG : List (Option AV) → Hp E → Option R) (KL : Ex → List (Option AV) → Hp E → Option R) :
    iterStep (E := E) (O_spec_BoardFault_w N) (fun {R} => LI (noIt) 1 85 sl_spec_BoardFault_w (R := R)) J_spec_BoardFault_w 1 85 0 [1, 3] [2] (body Go.Proofs.Try.f25 0) AG KL [(Option.some (Go.Eng.AV.sc (Go.Eng.SV.ptr 1 0 0))), (Option.some (Go.Eng.AV.sc (Go.Eng.SV.int Go.IntKind.i64 n2)))] [(Option.some (Go.Eng.HE.mk Bool.false (Go.Eng.HB.rows (Go.Sa.B.iDevice l1)))), (Option.some (Go.Eng.HE.mk Bool.false (Go.Eng.HB.exp [(Go.Eng.SV.int Go.IntKind.i64 n3), (Go.Eng.SV.int Go.IntKind.i64 n4), (Go.Eng.SV.slc 0 Option.none b1)])))] =
      s_spec_BoardFault_w_0 N l1 n3 n4 b1 n2 (fun n2 => AG [(Option.some (Go.Eng.AV.sc (Go.Eng.SV.ptr 1 0 0))), (Option.some (Go.Eng.AV.sc (Go.Eng.SV.int Go.IntKind.i64 n2)))] [(Option.some (Go.Eng.HE.mk Bool.false (Go.Eng.HB.rows (Go.Sa.B.iDevice l1)))), (Option.some (Go.Eng.HE.mk Bool.false (Go.Eng.HB.exp [(Go.Eng.SV.int Go.IntKind.i64 n3), (Go.Eng.SV.int Go.IntKind.i64 n4), (Go.Eng.SV.slc 0 Option.none b1)])))]) (KL Go.Eng.Ex.ret [(Option.some (Go.Eng.AV.sc (Go.Eng.SV.int Go.IntKind.i64 (1 : Int))))] [(Option.some (Go.Eng.HE.mk Bool.false (Go.Eng.HB.rows (Go.Sa.B.iDevice l1))))]) (KL Go.Eng.Ex.normal [Option.none] [(Option.some (Go.Eng.HE.mk Bool.false (Go.Eng.HB.rows (Go.Sa.B.iDevice l1))))]) := by kernel_rfl
theorem le_spec_BoardFault_w_0 (N : Nat) {R : Type} (l1 : List Go.Sa.Device) (n3 : Int) (n4 : Int) (b1 : Bool) (KL : Ex → List (Option AV) → Hp E → Option R) : ∀ (f : Nat), ∀ (n2 : Int), iterK (E := E) (O_spec_BoardFault_w N) (fun {R} => LI (noIt) 1 85 sl_spec_BoardFault_w (R := R)) J_spec_BoardFault_w 1 85 0 [1, 3] [2] (body Go.Proofs.Try.f25 0) f [(Option.some (Go.Eng.AV.sc (Go.Eng.SV.ptr 1 0 0))), (Option.some (Go.Eng.AV.sc (Go.Eng.SV.int Go.IntKind.i64 n2)))] [(Option.some (Go.Eng.HE.mk Bool.false (Go.Eng.HB.rows (Go.Sa.B.iDevice l1)))), (Option.some (Go.Eng.HE.mk Bool.false (Go.Eng.HB.exp [(Go.Eng.SV.int Go.IntKind.i64 n3), (Go.Eng.SV.int Go.IntKind.i64 n4), (Go.Eng.SV.slc 0 Option.none b1)])))] KL = l_spec_BoardFault_w_0 N l1 n3 n4 b1 (KL Go.Eng.Ex.ret [(Option.some (Go.Eng.AV.sc (Go.Eng.SV.int Go.IntKind.i64 (1 : Int))))] [(Option.some (Go.Eng.HE.mk Bool.false (Go.Eng.HB.rows (Go.Sa.B.iDevice l1))))]) (KL Go.Eng.Ex.normal [Option.none] [(Option.some (Go.Eng.HE.mk Bool.false (Go.Eng.HB.rows (Go.Sa.B.iDevice l1))))]) f n2 := by
  intro f
  induction f with
  | zero => intros; rfl
  | succ f ih =>
    intro n2
    rw [iterK_succ, se_spec_BoardFault_w_0]
    exact congrArg (fun ag => s_spec_BoardFault_w_0 N l1 n3 n4 b1 n2 ag (KL Go.Eng.Ex.ret [(Option.some (Go.Eng.AV.sc (Go.Eng.SV.int Go.IntKind.i64 (1 : Int))))] [(Option.some (Go.Eng.HE.mk Bool.false (Go.Eng.HB.rows (Go.Sa.B.iDevice l1))))]) (KL Go.Eng.Ex.normal [Option.none] [(Option.some (Go.Eng.HE.mk Bool.false (Go.Eng.HB.rows (Go.Sa.B.iDevice l1))))])) (funext fun n2 => ih n2)
def i_spec_BoardFault_w_0 (N : Nat) {R : Type} (vs : List (Option AV)) (H : Hp E) (KL : Ex → List (Option AV) → Hp E → Option R) : Option R :=
  match vs, H with
  | [(Option.some (Go.Eng.AV.sc (Go.Eng.SV.ptr 1 0 0))), (Option.some (Go.Eng.AV.sc (Go.Eng.SV.int Go.IntKind.i64 n2)))], [(Option.some (Go.Eng.HE.mk Bool.false (Go.Eng.HB.rows (Go.Sa.B.iDevice l1)))), (Option.some (Go.Eng.HE.mk Bool.false (Go.Eng.HB.exp [(Go.Eng.SV.int Go.IntKind.i64 n3), (Go.Eng.SV.int Go.IntKind.i64 n4), (Go.Eng.SV.slc 0 Option.none b1)])))] => c_spec_BoardFault_w_0 N l1 n3 n4 b1 n2 (KL Go.Eng.Ex.ret [(Option.some (Go.Eng.AV.sc (Go.Eng.SV.int Go.IntKind.i64 (1 : Int))))] [(Option.some (Go.Eng.HE.mk Bool.false (Go.Eng.HB.rows (Go.Sa.B.iDevice l1))))]) (KL Go.Eng.Ex.normal [Option.none] [(Option.some (Go.Eng.HE.mk Bool.false (Go.Eng.HB.rows (Go.Sa.B.iDevice l1))))])
  | _, _ => none
noncomputable def IT_spec_BoardFault_w_0 (N : Nat) : Its E := addIt 0 (i_spec_BoardFault_w_0 N) (noIt)
theorem IT_spec_BoardFault_w_0_ok (N : Nat) : ItOk (IT_spec_BoardFault_w_0 N) 1 85 sl_spec_BoardFault_w (lsB Go.Proofs.Try.f25 [0]) :=
  addItB_ok (inner := []) ok (O_spec_BoardFault_w_ok N) (jn_ok _ _) (noIt_ok) rfl (by kernel_rfl) rfl fun vs H KL r h => by
    unfold i_spec_BoardFault_w_0 at h
    split at h
    · exact ⟨_, (le_spec_BoardFault_w_0 N _ _ _ _ KL N _).trans h⟩
    · cases h
def g_spec_BoardFault_w (N : Nat) {R : Type} (n : Int) (n1 : Int) (b : Bool) (l : List Go.Sa.Device) (k : Int → Option R) : Option R :=
  (oK (cond (decide ((n < (2 : Int))))
    (some Bool.true)
    (cond (decide ((n > (256 : Int))))
      (some Bool.true)
      (cond (decide ((n1 < (1 : Int))))
        (some Bool.true)
        (cond (decide ((n1 > (8 : Int))))
          (some Bool.true)
          (some (decide (((((List.length l) : Nat) : Int) > (16 : Int))))))))) fun j =>
  (cond j
  (k (1 : Int))
  (c_spec_BoardFault_w_0 N l n n1 b (0 : Int) (
    (k (1 : Int))) (
    (k (0 : Int))))))
theorem e_spec_BoardFault_w (N : Nat) {R : Type} (n : Int) (n1 : Int) (b : Bool) (l : List Go.Sa.Device) (K : AV → Hp E → Option R) :
    runFnI (E := E) (O_spec_BoardFault_w N) (IT_spec_BoardFault_w_0 N) sl_spec_BoardFault_w J_spec_BoardFault_w Go.Proofs.Try.f25 [(Go.Eng.AV.agg [(Go.Eng.SV.int Go.IntKind.i64 n), (Go.Eng.SV.int Go.IntKind.i64 n1), (Go.Eng.SV.slc 0 Option.none b)])] [(Option.some (Go.Eng.HE.mk Bool.false (Go.Eng.HB.rows (Go.Sa.B.iDevice l))))] K =
      g_spec_BoardFault_w N n n1 b l (fun n5 => K (Go.Eng.AV.sc (Go.Eng.SV.int Go.IntKind.i64 n5)) [(Option.some (Go.Eng.HE.mk Bool.false (Go.Eng.HB.rows (Go.Sa.B.iDevice l))))]) := by kernel_rfl
def o_spec_BoardFault_w (N : Nat) {R : Type} (args : List AV) (H : Hp E) (K : AV → Hp E → Option R) : Option R :=
  match args, H with
  | [(Go.Eng.AV.agg [(Go.Eng.SV.int Go.IntKind.i64 n), (Go.Eng.SV.int Go.IntKind.i64 n1), (Go.Eng.SV.slc 0 Option.none b)])], [(Option.some (Go.Eng.HE.mk Bool.false (Go.Eng.HB.rows (Go.Sa.B.iDevice l))))] => g_spec_BoardFault_w N n n1 b l (fun n5 => K (Go.Eng.AV.sc (Go.Eng.SV.int Go.IntKind.i64 n5)) [(Option.some (Go.Eng.HE.mk Bool.false (Go.Eng.HB.rows (Go.Sa.B.iDevice l))))])
  | _, _ => none
theorem o_spec_BoardFault_w_ok (N : Nat) : FnOk E 25 (o_spec_BoardFault_w N) := by
  intro R args H K r h
  unfold o_spec_BoardFault_w at h
  dsimp only at h
  split at h
  · exact fnB_ok (ids := [0]) (top := [0]) ok (O_spec_BoardFault_w_ok N) (jn_ok _ _) Go.Proofs.Try.func25 (by kernel_rfl) (IT := IT_spec_BoardFault_w_0 N) (sl := sl_spec_BoardFault_w) (J := J_spec_BoardFault_w) (K := K) (H := [(Option.some (Go.Eng.HE.mk Bool.false (Go.Eng.HB.rows (Go.Sa.B.iDevice _))))]) (IT_spec_BoardFault_w_0_ok N) (by kernel_rfl) rfl ((e_spec_BoardFault_w N _ _ _ _ K).trans h)
  · cases h
/-! ### loop.example/g00038/impl.BoardFault -/
abbrev sl_impl_BoardFault_w : SlotT := [(0, ([1, 22, 23, 24], [2]))]
abbrev J_impl_BoardFault_w : JT := jn [(1, [(20, .b)]), (6, [(60, .b)])] []
noncomputable def O_impl_BoardFault_w (N : Nat) : Orc E := addFn 71 (o_impl_yin N) (noFn)
theorem O_impl_BoardFault_w_ok (N : Nat) : OrcOk (O_impl_BoardFault_w N) := addFn_ok (o_impl_yin_ok N) (noFn_ok)
def s_impl_BoardFault_w_0 (N : Nat) {R : Type} (b3 : Bool) (n2 : Int) (l1 : List Go.Sa.Device) (n4 : Int) (n5 : Int) (b4 : Bool) (n3 : Int) (ag : Int → Option R) (kR : Option R) (kN : Option R) : Option R :=
  (cond (decide ((n3 < n2)))
  (cond ((decide (((0 : Int) ≤ n3))) && (decide ((n3 < (((List.length l1) : Nat) : Int)))))
    (elemK l1 (Int.toNat n3) fun x =>
      (oK (g_impl_yin N (Go.Sa.Device.fKind x) (1 : Int) (255 : Int) fun b5 =>
        (cond (!b5)
        (some Bool.true)
        (g_impl_yin N (Go.Sa.Device.fPort x) (0 : Int) (2047 : Int) fun b6 =>
          (cond (!b6)
          (some Bool.true)
          (g_impl_yin N (Go.Sa.Device.fLine x) (0 : Int) (6 : Int) fun b7 =>
            (cond (!b7)
            (some Bool.true)
            (cond (decide ((n3 > (0 : Int))))
              (cond ((decide (((0 : Int) ≤ (Go.IntKind.wrap Go.IntKind.i64 (n3 - (1 : Int)))))) && (decide (((Go.IntKind.wrap Go.IntKind.i64 (n3 - (1 : Int))) < (((List.length l1) : Nat) : Int)))))
                (elemK l1 (Int.toNat (Go.IntKind.wrap Go.IntKind.i64 (n3 - (1 : Int)))) fun x1 =>
                  (some (decide (((Go.Sa.Device.fPort x1) ≥ (Go.Sa.Device.fPort x))))))
                none)
              (some Bool.false)))))))) fun j1 =>
      (cond j1
      kR
      (ag (Go.IntKind.wrap Go.IntKind.i64 (n3 + (1 : Int)))))))
    none)
  kN)
def l_impl_BoardFault_w_0 (N : Nat) {R : Type} (b3 : Bool) (n2 : Int) (l1 : List Go.Sa.Device) (n4 : Int) (n5 : Int) (b4 : Bool) (kR : Option R) (kN : Option R) : Nat → Int → Option R
  | 0, _ => none
  | f + 1, n3 => s_impl_BoardFault_w_0 N b3 n2 l1 n4 n5 b4 n3 (fun n3 => l_impl_BoardFault_w_0 N b3 n2 l1 n4 n5 b4 kR kN f n3) kR kN
def c_impl_BoardFault_w_0 (N : Nat) {R : Type} (b3 : Bool) (n2 : Int) (l1 : List Go.Sa.Device) (n4 : Int) (n5 : Int) (b4 : Bool) (n3 : Int) (kR : Option R) (kN : Option R) : Option R := l_impl_BoardFault_w_0 N b3 n2 l1 n4 n5 b4 kR kN N n3
theorem se_impl_BoardFault_w_0 (N : Nat) {R : Type} (b3 : Bool) (n2 : Int) (l1 : List Go.Sa.Device) (n4 : Int) (n5 : Int) (b4 : Bool) (n3 : Int) (AG : List (Option AV) → Hp E → Option R) (KL : Ex → List (Option AV) → Hp E → Option R) :
    iterStep (E := E) (O_impl_BoardFault_w N) (fun {R} => LI (noIt) 1 62 sl_impl_BoardFault_w (R := R)) J_impl_BoardFault_w 1 62 0 [1, 22, 23, 24] [2] (body Go.Proofs.Try.f27 0) AG KL [(Option.some (Go.Eng.AV.sc (Go.Eng.SV.ptr 1 0 0))), (Option.some (Go.Eng.AV.sc (Go.Eng.SV.slc 0 Option.none b3))), (Option.some (Go.Eng.AV.sc (Go.Eng.SV.int Go.IntKind.i64 n2))), (Option.some (Go.Eng.AV.sc (Go.Eng.SV.int Go.IntKind.i64 n3)))] [(Option.some (Go.Eng.HE.mk Bool.false (Go.Eng.HB.rows (Go.Sa.B.iDevice l1)))), (Option.some (Go.Eng.HE.mk Bool.false (Go.Eng.HB.exp [(Go.Eng.SV.int Go.IntKind.i64 n4), (Go.Eng.SV.int Go.IntKind.i64 n5), (Go.Eng.SV.slc 0 Option.none b4)])))] =
      s_impl_BoardFault_w_0 N b3 n2 l1 n4 n5 b4 n3 (fun n3 => AG [(Option.some (Go.Eng.AV.sc (Go.Eng.SV.ptr 1 0 0))), (Option.some (Go.Eng.AV.sc (Go.Eng.SV.slc 0 Option.none b3))), (Option.some (Go.Eng.AV.sc (Go.Eng.SV.int Go.IntKind.i64 n2))), (Option.some (Go.Eng.AV.sc (Go.Eng.SV.int Go.IntKind.i64 n3)))] [(Option.some (Go.Eng.HE.mk Bool.false (Go.Eng.HB.rows (Go.Sa.B.iDevice l1)))), (Option.some (Go.Eng.HE.mk Bool.false (Go.Eng.HB.exp [(Go.Eng.SV.int Go.IntKind.i64 n4), (Go.Eng.SV.int Go.IntKind.i64 n5), (Go.Eng.SV.slc 0 Option.none b4)])))]) (KL Go.Eng.Ex.ret [(Option.some (Go.Eng.AV.sc (Go.Eng.SV.int Go.IntKind.i64 (1 : Int))))] [(Option.some (Go.Eng.HE.mk Bool.false (Go.Eng.HB.rows (Go.Sa.B.iDevice l1))))]) (KL Go.Eng.Ex.normal [Option.none] [(Option.some (Go.Eng.HE.mk Bool.false (Go.Eng.HB.rows (Go.Sa.B.iDevice l1))))]) := by kernel_rfl
theorem le_impl_BoardFault_w_0 (N : Nat) {R : Type} (b3 : Bool) (n2 : Int) (l1 : List Go.Sa.Device) (n4 : Int) (n5 : Int) (b4 : Bool) (KL : Ex → List (Option AV) → Hp E → Option R) : ∀ (f : Nat), ∀ (n3 : Int), iterK (E := E) (O_impl_BoardFault_w N) (fun {R} => LI (noIt) 1 62 sl_impl_BoardFault_w (R := R)) J_impl_BoardFault_w 1 62 0 [1, 22, 23, 24] [2] (body Go.Proofs.Try.f27 0) f [(Option.some (Go.Eng.AV.sc (Go.Eng.SV.ptr 1 0 0))), (Option.some (Go.Eng.AV.sc (Go.Eng.SV.slc 0 Option.none b3))), (Option.some (Go.Eng.AV.sc (Go.Eng.SV.int Go.IntKind.i64 n2))), (Option.some (Go.Eng.AV.sc (Go.Eng.SV.int Go.IntKind.i64 n3)))] [(Option.some (Go.Eng.HE.mk Bool.false (Go.Eng.HB.rows (Go.Sa.B.iDevice l1)))), (Option.some (Go.Eng.HE.mk Bool.false (Go.Eng.HB.exp [(Go.Eng.SV.int Go.IntKind.i64 n4), (Go.Eng.SV.int Go.IntKind.i64 n5), (Go.Eng.SV.slc 0 Option.none b4)])))] KL = l_impl_BoardFault_w_0 N b3 n2 l1 n4 n5 b4 (KL Go.Eng.Ex.ret [(Option.some (Go.Eng.AV.sc (Go.Eng.SV.int Go.IntKind.i64 (1 : Int))))] [(Option.some (Go.Eng.HE.mk Bool.false (Go.Eng.HB.rows (Go.Sa.B.iDevice l1))))]) (KL Go.Eng.Ex.normal [Option.none] [(Option.some (Go.Eng.HE.mk Bool.false (Go.Eng.HB.rows (Go.Sa.B.iDevice l1))))]) f n3 := by
  intro f
  induction f with
  | zero => intros; rfl
  | succ f ih =>
    intro n3
    rw [iterK_succ, se_impl_BoardFault_w_0]
    exact congrArg (fun ag => s_impl_BoardFault_w_0 N b3 n2 l1 n4 n5 b4 n3 ag (KL Go.Eng.Ex.ret [(Option.some (Go.Eng.AV.sc (Go.Eng.SV.int Go.IntKind.i64 (1 : Int))))] [(Option.some (Go.Eng.HE.mk Bool.false (Go.Eng.HB.rows (Go.Sa.B.iDevice l1))))]) (KL Go.Eng.Ex.normal [Option.none] [(Option.some (Go.Eng.HE.mk Bool.false (Go.Eng.HB.rows (Go.Sa.B.iDevice l1))))])) (funext fun n3 => ih n3)
def i_impl_BoardFault_w_0 (N : Nat) {R : Type} (vs : List (Option AV)) (H : Hp E) (KL : Ex → List (Option AV) → Hp E → Option R) : Option R :=
  match vs, H with
  | [(Option.some (Go.Eng.AV.sc (Go.Eng.SV.ptr 1 0 0))), (Option.some (Go.Eng.AV.sc (Go.Eng.SV.slc 0 Option.none b3))), (Option.some (Go.Eng.AV.sc (Go.Eng.SV.int Go.IntKind.i64 n2))), (Option.some (Go.Eng.AV.sc (Go.Eng.SV.int Go.IntKind.i64 n3)))], [(Option.some (Go.Eng.HE.mk Bool.false (Go.Eng.HB.rows (Go.Sa.B.iDevice l1)))), (Option.some (Go.Eng.HE.mk Bool.false (Go.Eng.HB.exp [(Go.Eng.SV.int Go.IntKind.i64 n4), (Go.Eng.SV.int Go.IntKind.i64 n5), (Go.Eng.SV.slc 0 Option.none b4)])))] => c_impl_BoardFault_w_0 N b3 n2 l1 n4 n5 b4 n3 (KL Go.Eng.Ex.ret [(Option.some (Go.Eng.AV.sc (Go.Eng.SV.int Go.IntKind.i64 (1 : Int))))] [(Option.some (Go.Eng.HE.mk Bool.false (Go.Eng.HB.rows (Go.Sa.B.iDevice l1))))]) (KL Go.Eng.Ex.normal [Option.none] [(Option.some (Go.Eng.HE.mk Bool.false (Go.Eng.HB.rows (Go.Sa.B.iDevice l1))))])
  | _, _ => none
noncomputable def IT_impl_BoardFault_w_0 (N : Nat) : Its E := addIt 0 (i_impl_BoardFault_w_0 N) (noIt)
theorem IT_impl_BoardFault_w_0_ok (N : Nat) : ItOk (IT_impl_BoardFault_w_0 N) 1 62 sl_impl_BoardFault_w (lsB Go.Proofs.Try.f27 [0]) :=
  addItB_ok (inner := []) ok (O_impl_BoardFault_w_ok N) (jn_ok _ _) (noIt_ok) rfl (by kernel_rfl) rfl fun vs H KL r h => by
    unfold i_impl_BoardFault_w_0 at h
    split at h
    · exact ⟨_, (le_impl_BoardFault_w_0 N _ _ _ _ _ _ KL N _).trans h⟩
    · cases h
def g_impl_BoardFault_w (N : Nat) {R : Type} (n : Int) (n1 : Int) (b : Bool) (l : List Go.Sa.Device) (k : Int → Option R) : Option R :=
  (oK (g_impl_yin N n (2 : Int) (256 : Int) fun b1 =>
    (cond (!b1)
    (some Bool.true)
    (g_impl_yin N n1 (1 : Int) (8 : Int) fun b2 =>
      (cond (!b2)
      (some Bool.true)
      (some (decide (((((List.length l) : Nat) : Int) > (16 : Int))))))))) fun j =>
  (cond j
  (k (1 : Int))
  (c_impl_BoardFault_w_0 N b (((List.length l) : Nat) : Int) l n n1 b (0 : Int) (
    (k (1 : Int))) (
    (k (0 : Int))))))
theorem e_impl_BoardFault_w (N : Nat) {R : Type} (n : Int) (n1 : Int) (b : Bool) (l : List Go.Sa.Device) (K : AV → Hp E → Option R) :
    runFnI (E := E) (O_impl_BoardFault_w N) (IT_impl_BoardFault_w_0 N) sl_impl_BoardFault_w J_impl_BoardFault_w Go.Proofs.Try.f27 [(Go.Eng.AV.agg [(Go.Eng.SV.int Go.IntKind.i64 n), (Go.Eng.SV.int Go.IntKind.i64 n1), (Go.Eng.SV.slc 0 Option.none b)])] [(Option.some (Go.Eng.HE.mk Bool.false (Go.Eng.HB.rows (Go.Sa.B.iDevice l))))] K =
      g_impl_BoardFault_w N n n1 b l (fun n6 => K (Go.Eng.AV.sc (Go.Eng.SV.int Go.IntKind.i64 n6)) [(Option.some (Go.Eng.HE.mk Bool.false (Go.Eng.HB.rows (Go.Sa.B.iDevice l))))]) := by kernel_rfl
def o_impl_BoardFault_w (N : Nat) {R : Type} (args : List AV) (H : Hp E) (K : AV → Hp E → Option R) : Option R :=
  match args, H with
  | [(Go.Eng.AV.agg [(Go.Eng.SV.int Go.IntKind.i64 n), (Go.Eng.SV.int Go.IntKind.i64 n1), (Go.Eng.SV.slc 0 Option.none b)])], [(Option.some (Go.Eng.HE.mk Bool.false (Go.Eng.HB.rows (Go.Sa.B.iDevice l))))] => g_impl_BoardFault_w N n n1 b l (fun n6 => K (Go.Eng.AV.sc (Go.Eng.SV.int Go.IntKind.i64 n6)) [(Option.some (Go.Eng.HE.mk Bool.false (Go.Eng.HB.rows (Go.Sa.B.iDevice l))))])
  | _, _ => none
theorem o_impl_BoardFault_w_ok (N : Nat) : FnOk E 27 (o_impl_BoardFault_w N) := by
  intro R args H K r h
  unfold o_impl_BoardFault_w at h
  dsimp only at h
  split at h
  · exact fnB_ok (ids := [0]) (top := [0]) ok (O_impl_BoardFault_w_ok N) (jn_ok _ _) Go.Proofs.Try.func27 (by kernel_rfl) (IT := IT_impl_BoardFault_w_0 N) (sl := sl_impl_BoardFault_w) (J := J_impl_BoardFault_w) (K := K) (H := [(Option.some (Go.Eng.HE.mk Bool.false (Go.Eng.HB.rows (Go.Sa.B.iDevice _))))]) (IT_impl_BoardFault_w_0_ok N) (by kernel_rfl) rfl ((e_impl_BoardFault_w N _ _ _ _ K).trans h)
  · cases h
/-! ### loop.example/g00038/laws.eqDevice -/
abbrev sl_laws_eqDevice : SlotT := []
abbrev J_laws_eqDevice : JT := jn [] []
noncomputable def O_laws_eqDevice (N : Nat) : Orc E := noFn
theorem O_laws_eqDevice_ok (N : Nat) : OrcOk (O_laws_eqDevice N) := noFn_ok
def g_laws_eqDevice (N : Nat) {R : Type} (n : Int) (n1 : Int) (n2 : Int) (n3 : Int) (n4 : Int) (n5 : Int) (k : Bool → Option R) : Option R :=
  (cond (n != n3)
  (k Bool.false)
  (cond (n1 != n4)
    (k Bool.false)
    (cond (n2 != n5)
      (k Bool.false)
      (k Bool.true))))
theorem e_laws_eqDevice (N : Nat) {R : Type} (n : Int) (n1 : Int) (n2 : Int) (n3 : Int) (n4 : Int) (n5 : Int) (K : AV → Hp E → Option R) :
    runFnI (E := E) (O_laws_eqDevice N) (noIt) sl_laws_eqDevice J_laws_eqDevice Go.Proofs.Try.f135 [(Go.Eng.AV.agg [(Go.Eng.SV.int Go.IntKind.i64 n), (Go.Eng.SV.int Go.IntKind.i64 n1), (Go.Eng.SV.int Go.IntKind.i64 n2)]), (Go.Eng.AV.agg [(Go.Eng.SV.int Go.IntKind.i64 n3), (Go.Eng.SV.int Go.IntKind.i64 n4), (Go.Eng.SV.int Go.IntKind.i64 n5)])] [] K =
      g_laws_eqDevice N n n1 n2 n3 n4 n5 (fun b => K (Go.Eng.AV.sc (Go.Eng.SV.bool b)) []) := by kernel_rfl
def o_laws_eqDevice (N : Nat) {R : Type} (args : List AV) (H : Hp E) (K : AV → Hp E → Option R) : Option R :=
  match args, H with
  | [(Go.Eng.AV.agg [(Go.Eng.SV.int Go.IntKind.i64 n), (Go.Eng.SV.int Go.IntKind.i64 n1), (Go.Eng.SV.int Go.IntKind.i64 n2)]), (Go.Eng.AV.agg [(Go.Eng.SV.int Go.IntKind.i64 n3), (Go.Eng.SV.int Go.IntKind.i64 n4), (Go.Eng.SV.int Go.IntKind.i64 n5)])], [] => g_laws_eqDevice N n n1 n2 n3 n4 n5 (fun b => K (Go.Eng.AV.sc (Go.Eng.SV.bool b)) [])
  | _, _ => none
theorem o_laws_eqDevice_ok (N : Nat) : FnOk E 135 (o_laws_eqDevice N) := by
  intro R args H K r h
  unfold o_laws_eqDevice at h
  dsimp only at h
  split at h
  · exact fnB_ok (ids := []) (top := []) ok (O_laws_eqDevice_ok N) (jn_ok _ _) Go.Proofs.Try.func135 (by kernel_rfl) (IT := noIt) (sl := sl_laws_eqDevice) (J := J_laws_eqDevice) (K := K) (H := []) (noIt_ok) (by kernel_rfl) rfl ((e_laws_eqDevice N _ _ _ _ _ _ K).trans h)
  · cases h
/-! ### loop.example/g00038/laws.eqDeviceS -/
abbrev sl_laws_eqDeviceS_rr : SlotT := [(0, ([0, 1, 5], [4]))]
abbrev J_laws_eqDeviceS_rr : JT := jn [] []
noncomputable def O_laws_eqDeviceS_rr (N : Nat) : Orc E := addFn 135 (o_laws_eqDevice N) (noFn)
theorem O_laws_eqDeviceS_rr_ok (N : Nat) : OrcOk (O_laws_eqDeviceS_rr N) := addFn_ok (o_laws_eqDevice_ok N) (noFn_ok)
def s_laws_eqDeviceS_rr_0 (N : Nat) {R : Type} (b2 : Bool) (b3 : Bool) (l2 : List Go.Sa.Device) (l3 : List Go.Sa.Device) (n : Int) (ag : Int → Option R) (kR : Option R) (kN : Option R) : Option R :=
  (cond (decide ((n < (((List.length l2) : Nat) : Int))))
  (cond ((decide (((0 : Int) ≤ n))) && (decide ((n < (((List.length l2) : Nat) : Int)))))
    (elemK l2 (Int.toNat n) fun x =>
      (cond ((decide (((0 : Int) ≤ n))) && (decide ((n < (((List.length l3) : Nat) : Int)))))
      (elemK l3 (Int.toNat n) fun x1 =>
        (g_laws_eqDevice N (Go.Sa.Device.fKind x) (Go.Sa.Device.fPort x) (Go.Sa.Device.fLine x) (Go.Sa.Device.fKind x1) (Go.Sa.Device.fPort x1) (Go.Sa.Device.fLine x1) fun b4 =>
        (cond (!b4)
        kR
        (ag (Go.IntKind.wrap Go.IntKind.i64 (n + (1 : Int)))))))
      none))
    none)
  kN)
def l_laws_eqDeviceS_rr_0 (N : Nat) {R : Type} (b2 : Bool) (b3 : Bool) (l2 : List Go.Sa.Device) (l3 : List Go.Sa.Device) (kR : Option R) (kN : Option R) : Nat → Int → Option R
  | 0, _ => none
  | f + 1, n => s_laws_eqDeviceS_rr_0 N b2 b3 l2 l3 n (fun n => l_laws_eqDeviceS_rr_0 N b2 b3 l2 l3 kR kN f n) kR kN
def c_laws_eqDeviceS_rr_0 (N : Nat) {R : Type} (b2 : Bool) (b3 : Bool) (l2 : List Go.Sa.Device) (l3 : List Go.Sa.Device) (n : Int) (kR : Option R) (kN : Option R) : Option R := l_laws_eqDeviceS_rr_0 N b2 b3 l2 l3 kR kN N n
theorem se_laws_eqDeviceS_rr_0 (N : Nat) {R : Type} (b2 : Bool) (b3 : Bool) (l2 : List Go.Sa.Device) (l3 : List Go.Sa.Device) (n : Int) (AG : List (Option AV) → Hp E → Option R) (KL : Ex → List (Option AV) → Hp E → Option R) :
    iterStep (E := E) (O_laws_eqDeviceS_rr N) (fun {R} => LI (noIt) 2 27 sl_laws_eqDeviceS_rr (R := R)) J_laws_eqDeviceS_rr 2 27 0 [0, 1, 5] [4] (body Go.Proofs.Try.f79 0) AG KL [(Option.some (Go.Eng.AV.sc (Go.Eng.SV.slc 0 Option.none b2))), (Option.some (Go.Eng.AV.sc (Go.Eng.SV.slc 1 Option.none b3))), (Option.some (Go.Eng.AV.sc (Go.Eng.SV.int Go.IntKind.i64 n)))] [(Option.some (Go.Eng.HE.mk Bool.true (Go.Eng.HB.rows (Go.Sa.B.iDevice l2)))), (Option.some (Go.Eng.HE.mk Bool.true (Go.Eng.HB.rows (Go.Sa.B.iDevice l3))))] =
      s_laws_eqDeviceS_rr_0 N b2 b3 l2 l3 n (fun n => AG [(Option.some (Go.Eng.AV.sc (Go.Eng.SV.slc 0 Option.none b2))), (Option.some (Go.Eng.AV.sc (Go.Eng.SV.slc 1 Option.none b3))), (Option.some (Go.Eng.AV.sc (Go.Eng.SV.int Go.IntKind.i64 n)))] [(Option.some (Go.Eng.HE.mk Bool.true (Go.Eng.HB.rows (Go.Sa.B.iDevice l2)))), (Option.some (Go.Eng.HE.mk Bool.true (Go.Eng.HB.rows (Go.Sa.B.iDevice l3))))]) (KL Go.Eng.Ex.ret [(Option.some (Go.Eng.AV.sc (Go.Eng.SV.bool Bool.false)))] [(Option.some (Go.Eng.HE.mk Bool.true (Go.Eng.HB.rows (Go.Sa.B.iDevice l2)))), (Option.some (Go.Eng.HE.mk Bool.true (Go.Eng.HB.rows (Go.Sa.B.iDevice l3))))]) (KL Go.Eng.Ex.normal [Option.none] [(Option.some (Go.Eng.HE.mk Bool.true (Go.Eng.HB.rows (Go.Sa.B.iDevice l2)))), (Option.some (Go.Eng.HE.mk Bool.true (Go.Eng.HB.rows (Go.Sa.B.iDevice l3))))]) := by kernel_rfl
theorem le_laws_eqDeviceS_rr_0 (N : Nat) {R : Type} (b2 : Bool) (b3 : Bool) (l2 : List Go.Sa.Device) (l3 : List Go.Sa.Device) (KL : Ex → List (Option AV) → Hp E → Option R) : ∀ (f : Nat), ∀ (n : Int), iterK (E := E) (O_laws_eqDeviceS_rr N) (fun {R} => LI (noIt) 2 27 sl_laws_eqDeviceS_rr (R := R)) J_laws_eqDeviceS_rr 2 27 0 [0, 1, 5] [4] (body Go.Proofs.Try.f79 0) f [(Option.some (Go.Eng.AV.sc (Go.Eng.SV.slc 0 Option.none b2))), (Option.some (Go.Eng.AV.sc (Go.Eng.SV.slc 1 Option.none b3))), (Option.some (Go.Eng.AV.sc (Go.Eng.SV.int Go.IntKind.i64 n)))] [(Option.some (Go.Eng.HE.mk Bool.true (Go.Eng.HB.rows (Go.Sa.B.iDevice l2)))), (Option.some (Go.Eng.HE.mk Bool.true (Go.Eng.HB.rows (Go.Sa.B.iDevice l3))))] KL = l_laws_eqDeviceS_rr_0 N b2 b3 l2 l3 (KL Go.Eng.Ex.ret [(Option.some (Go.Eng.AV.sc (Go.Eng.SV.bool Bool.false)))] [(Option.some (Go.Eng.HE.mk Bool.true (Go.Eng.HB.rows (Go.Sa.B.iDevice l2)))), (Option.some (Go.Eng.HE.mk Bool.true (Go.Eng.HB.rows (Go.Sa.B.iDevice l3))))]) (KL Go.Eng.Ex.normal [Option.none] [(Option.some (Go.Eng.HE.mk Bool.true (Go.Eng.HB.rows (Go.Sa.B.iDevice l2)))), (Option.some (Go.Eng.HE.mk Bool.true (Go.Eng.HB.rows (Go.Sa.B.iDevice l3))))]) f n := by
  intro f
  induction f with
  | zero => intros; rfl
  | succ f ih =>
    intro n
    rw [iterK_succ, se_laws_eqDeviceS_rr_0]
    exact congrArg (fun ag => s_laws_eqDeviceS_rr_0 N b2 b3 l2 l3 n ag (KL Go.Eng.Ex.ret [(Option.some (Go.Eng.AV.sc (Go.Eng.SV.bool Bool.false)))] [(Option.some (Go.Eng.HE.mk Bool.true (Go.Eng.HB.rows (Go.Sa.B.iDevice l2)))), (Option.some (Go.Eng.HE.mk Bool.true (Go.Eng.HB.rows (Go.Sa.B.iDevice l3))))]) (KL Go.Eng.Ex.normal [Option.none] [(Option.some (Go.Eng.HE.mk Bool.true (Go.Eng.HB.rows (Go.Sa.B.iDevice l2)))), (Option.some (Go.Eng.HE.mk Bool.true (Go.Eng.HB.rows (Go.Sa.B.iDevice l3))))])) (funext fun n => ih n)
def i_laws_eqDeviceS_rr_0 (N : Nat) {R : Type} (vs : List (Option AV)) (H : Hp E) (KL : Ex → List (Option AV) → Hp E → Option R) : Option R :=
  match vs, H with
  | [(Option.some (Go.Eng.AV.sc (Go.Eng.SV.slc 0 Option.none b2))), (Option.some (Go.Eng.AV.sc (Go.Eng.SV.slc 1 Option.none b3))), (Option.some (Go.Eng.AV.sc (Go.Eng.SV.int Go.IntKind.i64 n)))], [(Option.some (Go.Eng.HE.mk Bool.true (Go.Eng.HB.rows (Go.Sa.B.iDevice l2)))), (Option.some (Go.Eng.HE.mk Bool.true (Go.Eng.HB.rows (Go.Sa.B.iDevice l3))))] => c_laws_eqDeviceS_rr_0 N b2 b3 l2 l3 n (KL Go.Eng.Ex.ret [(Option.some (Go.Eng.AV.sc (Go.Eng.SV.bool Bool.false)))] [(Option.some (Go.Eng.HE.mk Bool.true (Go.Eng.HB.rows (Go.Sa.B.iDevice l2)))), (Option.some (Go.Eng.HE.mk Bool.true (Go.Eng.HB.rows (Go.Sa.B.iDevice l3))))]) (KL Go.Eng.Ex.normal [Option.none] [(Option.some (Go.Eng.HE.mk Bool.true (Go.Eng.HB.rows (Go.Sa.B.iDevice l2)))), (Option.some (Go.Eng.HE.mk Bool.true (Go.Eng.HB.rows (Go.Sa.B.iDevice l3))))])
  | _, _ => none
noncomputable def IT_laws_eqDeviceS_rr_0 (N : Nat) : Its E := addIt 0 (i_laws_eqDeviceS_rr_0 N) (noIt)
theorem IT_laws_eqDeviceS_rr_0_ok (N : Nat) : ItOk (IT_laws_eqDeviceS_rr_0 N) 2 27 sl_laws_eqDeviceS_rr (lsB Go.Proofs.Try.f79 [0]) :=
  addItB_ok (inner := []) ok (O_laws_eqDeviceS_rr_ok N) (jn_ok _ _) (noIt_ok) rfl (by kernel_rfl) rfl fun vs H KL r h => by
    unfold i_laws_eqDeviceS_rr_0 at h
    split at h
    · exact ⟨_, (le_laws_eqDeviceS_rr_0 N _ _ _ _ KL N _).trans h⟩
    · cases h
def g_laws_eqDeviceS_rr (N : Nat) {R : Type} (b : Bool) (b1 : Bool) (l : List Go.Sa.Device) (l1 : List Go.Sa.Device) (k : Bool → Option R) : Option R :=
  (cond ((((List.length l) : Nat) : Int) != (((List.length l1) : Nat) : Int))
  (k Bool.false)
  (c_laws_eqDeviceS_rr_0 N b b1 l l1 (0 : Int) (
    (k Bool.false)) (
    (k Bool.true))))
theorem e_laws_eqDeviceS_rr (N : Nat) {R : Type} (b : Bool) (b1 : Bool) (l : List Go.Sa.Device) (l1 : List Go.Sa.Device) (K : AV → Hp E → Option R) :
    runFnI (E := E) (O_laws_eqDeviceS_rr N) (IT_laws_eqDeviceS_rr_0 N) sl_laws_eqDeviceS_rr J_laws_eqDeviceS_rr Go.Proofs.Try.f79 [(Go.Eng.AV.sc (Go.Eng.SV.slc 0 Option.none b)), (Go.Eng.AV.sc (Go.Eng.SV.slc 1 Option.none b1))] [(Option.some (Go.Eng.HE.mk Bool.true (Go.Eng.HB.rows (Go.Sa.B.iDevice l)))), (Option.some (Go.Eng.HE.mk Bool.true (Go.Eng.HB.rows (Go.Sa.B.iDevice l1))))] K =
      g_laws_eqDeviceS_rr N b b1 l l1 (fun b5 => K (Go.Eng.AV.sc (Go.Eng.SV.bool b5)) [(Option.some (Go.Eng.HE.mk Bool.true (Go.Eng.HB.rows (Go.Sa.B.iDevice l)))), (Option.some (Go.Eng.HE.mk Bool.true (Go.Eng.HB.rows (Go.Sa.B.iDevice l1))))]) := by kernel_rfl
def o_laws_eqDeviceS_rr (N : Nat) {R : Type} (args : List AV) (H : Hp E) (K : AV → Hp E → Option R) : Option R :=
  match args, H with
  | [(Go.Eng.AV.sc (Go.Eng.SV.slc 0 Option.none b)), (Go.Eng.AV.sc (Go.Eng.SV.slc 1 Option.none b1))], [(Option.some (Go.Eng.HE.mk Bool.true (Go.Eng.HB.rows (Go.Sa.B.iDevice l)))), (Option.some (Go.Eng.HE.mk Bool.true (Go.Eng.HB.rows (Go.Sa.B.iDevice l1))))] => g_laws_eqDeviceS_rr N b b1 l l1 (fun b5 => K (Go.Eng.AV.sc (Go.Eng.SV.bool b5)) [(Option.some (Go.Eng.HE.mk Bool.true (Go.Eng.HB.rows (Go.Sa.B.iDevice l)))), (Option.some (Go.Eng.HE.mk Bool.true (Go.Eng.HB.rows (Go.Sa.B.iDevice l1))))])
  | _, _ => none
theorem o_laws_eqDeviceS_rr_ok (N : Nat) : FnOk E 79 (o_laws_eqDeviceS_rr N) := by
  intro R args H K r h
  unfold o_laws_eqDeviceS_rr at h
  dsimp only at h
  split at h
  · exact fnB_ok (ids := [0]) (top := [0]) ok (O_laws_eqDeviceS_rr_ok N) (jn_ok _ _) Go.Proofs.Try.func79 (by kernel_rfl) (IT := IT_laws_eqDeviceS_rr_0 N) (sl := sl_laws_eqDeviceS_rr) (J := J_laws_eqDeviceS_rr) (K := K) (H := [(Option.some (Go.Eng.HE.mk Bool.true (Go.Eng.HB.rows (Go.Sa.B.iDevice _)))), (Option.some (Go.Eng.HE.mk Bool.true (Go.Eng.HB.rows (Go.Sa.B.iDevice _))))]) (IT_laws_eqDeviceS_rr_0_ok N) (by kernel_rfl) rfl ((e_laws_eqDeviceS_rr N _ _ _ _ K).trans h)
  · cases h
/-! ### loop.example/g00038/laws.eqBoard -/
abbrev sl_laws_eqBoard_rr : SlotT := []
abbrev J_laws_eqBoard_rr : JT := jn [] []
noncomputable def O_laws_eqBoard_rr (N : Nat) : Orc E := addFn 79 (o_laws_eqDeviceS_rr N) (noFn)
theorem O_laws_eqBoard_rr_ok (N : Nat) : OrcOk (O_laws_eqBoard_rr N) := addFn_ok (o_laws_eqDeviceS_rr_ok N) (noFn_ok)
def g_laws_eqBoard_rr (N : Nat) {R : Type} (n : Int) (n1 : Int) (b : Bool) (n2 : Int) (n3 : Int) (b1 : Bool) (l : List Go.Sa.Device) (l1 : List Go.Sa.Device) (k : Bool → Option R) : Option R :=
  (cond (n != n2)
  (k Bool.false)
  (cond (n1 != n3)
    (k Bool.false)
    (g_laws_eqDeviceS_rr N b b1 l l1 fun b2 =>
      (cond (!b2)
      (k Bool.false)
      (k Bool.true)))))
theorem e_laws_eqBoard_rr (N : Nat) {R : Type} (n : Int) (n1 : Int) (b : Bool) (n2 : Int) (n3 : Int) (b1 : Bool) (l : List Go.Sa.Device) (l1 : List Go.Sa.Device) (K : AV → Hp E → Option R) :
    runFnI (E := E) (O_laws_eqBoard_rr N) (noIt) sl_laws_eqBoard_rr J_laws_eqBoard_rr Go.Proofs.Try.f28 [(Go.Eng.AV.agg [(Go.Eng.SV.int Go.IntKind.i64 n), (Go.Eng.SV.int Go.IntKind.i64 n1), (Go.Eng.SV.slc 0 Option.none b)]), (Go.Eng.AV.agg [(Go.Eng.SV.int Go.IntKind.i64 n2), (Go.Eng.SV.int Go.IntKind.i64 n3), (Go.Eng.SV.slc 1 Option.none b1)])] [(Option.some (Go.Eng.HE.mk Bool.true (Go.Eng.HB.rows (Go.Sa.B.iDevice l)))), (Option.some (Go.Eng.HE.mk Bool.true (Go.Eng.HB.rows (Go.Sa.B.iDevice l1))))] K =
      g_laws_eqBoard_rr N n n1 b n2 n3 b1 l l1 (fun b3 => K (Go.Eng.AV.sc (Go.Eng.SV.bool b3)) [(Option.some (Go.Eng.HE.mk Bool.true (Go.Eng.HB.rows (Go.Sa.B.iDevice l)))), (Option.some (Go.Eng.HE.mk Bool.true (Go.Eng.HB.rows (Go.Sa.B.iDevice l1))))]) := by kernel_rfl
def o_laws_eqBoard_rr (N : Nat) {R : Type} (args : List AV) (H : Hp E) (K : AV → Hp E → Option R) : Option R :=
  match args, H with
  | [(Go.Eng.AV.agg [(Go.Eng.SV.int Go.IntKind.i64 n), (Go.Eng.SV.int Go.IntKind.i64 n1), (Go.Eng.SV.slc 0 Option.none b)]), (Go.Eng.AV.agg [(Go.Eng.SV.int Go.IntKind.i64 n2), (Go.Eng.SV.int Go.IntKind.i64 n3), (Go.Eng.SV.slc 1 Option.none b1)])], [(Option.some (Go.Eng.HE.mk Bool.true (Go.Eng.HB.rows (Go.Sa.B.iDevice l)))), (Option.some (Go.Eng.HE.mk Bool.true (Go.Eng.HB.rows (Go.Sa.B.iDevice l1))))] => g_laws_eqBoard_rr N n n1 b n2 n3 b1 l l1 (fun b3 => K (Go.Eng.AV.sc (Go.Eng.SV.bool b3)) [(Option.some (Go.Eng.HE.mk Bool.true (Go.Eng.HB.rows (Go.Sa.B.iDevice l)))), (Option.some (Go.Eng.HE.mk Bool.true (Go.Eng.HB.rows (Go.Sa.B.iDevice l1))))])
  | _, _ => none
theorem o_laws_eqBoard_rr_ok (N : Nat) : FnOk E 28 (o_laws_eqBoard_rr N) := by
  intro R args H K r h
  unfold o_laws_eqBoard_rr at h
  dsimp only at h
  split at h
  · exact fnB_ok (ids := []) (top := []) ok (O_laws_eqBoard_rr_ok N) (jn_ok _ _) Go.Proofs.Try.func28 (by kernel_rfl) (IT := noIt) (sl := sl_laws_eqBoard_rr) (J := J_laws_eqBoard_rr) (K := K) (H := [(Option.some (Go.Eng.HE.mk Bool.true (Go.Eng.HB.rows (Go.Sa.B.iDevice _)))), (Option.some (Go.Eng.HE.mk Bool.true (Go.Eng.HB.rows (Go.Sa.B.iDevice _))))]) (noIt_ok) (by kernel_rfl) rfl ((e_laws_eqBoard_rr N _ _ _ _ _ _ _ _ K).trans h)
  · cases h
/-! ### loop.example/g00038/laws.FnExactBoardFault -/
abbrev sl_laws_FnExactBoardFault_r : SlotT := []
abbrev J_laws_FnExactBoardFault_r : JT := jn [] []
noncomputable def O_laws_FnExactBoardFault_r (N : Nat) : Orc E := addFn 28 (o_laws_eqBoard_rr N) (addFn 27 (o_impl_BoardFault_w N) (addFn 25 (o_spec_BoardFault_w N) (addFn 26 (o_laws_toBoard_r N) (addFn 24 (o_laws_szBoard_r N) (noFn)))))
theorem O_laws_FnExactBoardFault_r_ok (N : Nat) : OrcOk (O_laws_FnExactBoardFault_r N) := addFn_ok (o_laws_eqBoard_rr_ok N) (addFn_ok (o_impl_BoardFault_w_ok N) (addFn_ok (o_spec_BoardFault_w_ok N) (addFn_ok (o_laws_toBoard_r_ok N) (addFn_ok (o_laws_szBoard_r_ok N) (noFn_ok)))))
def g_laws_FnExactBoardFault_r (N : Nat) {R : Type} (n : Int) (n1 : Int) (b : Bool) (l : List Go.Sa.Device) (k : Bool → Option R) : Option R :=
  (g_laws_szBoard_r N n n1 b (1048576 : Int) l fun n2 =>
  (cond (decide ((n2 < (0 : Int))))
  (k Bool.true)
  (g_laws_toBoard_r N n n1 b l fun l1 =>
    (g_spec_BoardFault_w N n n1 Bool.false l1 fun n3 =>
    (g_laws_toBoard_r N n n1 b l fun l2 =>
    (g_impl_BoardFault_w N n n1 Bool.false l2 fun n4 =>
    (cond (n4 != n3)
    (k Bool.false)
    (g_laws_toBoard_r N n n1 b l fun l3 =>
      (g_laws_eqBoard_rr N n n1 Bool.false n n1 Bool.false l2 l3 fun b1 =>
      (cond (!b1)
      (k Bool.false)
      (k Bool.true)))))))))))
theorem e_laws_FnExactBoardFault_r (N : Nat) {R : Type} (n : Int) (n1 : Int) (b : Bool) (l : List Go.Sa.Device) (K : AV → Hp E → Option R) :
    runFnI (E := E) (O_laws_FnExactBoardFault_r N) (noIt) sl_laws_FnExactBoardFault_r J_laws_FnExactBoardFault_r Go.Proofs.Try.f5 [(Go.Eng.AV.agg [(Go.Eng.SV.int Go.IntKind.i64 n), (Go.Eng.SV.int Go.IntKind.i64 n1), (Go.Eng.SV.slc 0 Option.none b)])] [(Option.some (Go.Eng.HE.mk Bool.true (Go.Eng.HB.rows (Go.Sa.B.lDevice l))))] K =
      g_laws_FnExactBoardFault_r N n n1 b l (fun b2 => K (Go.Eng.AV.sc (Go.Eng.SV.bool b2)) [(Option.some (Go.Eng.HE.mk Bool.true (Go.Eng.HB.rows (Go.Sa.B.lDevice l))))]) := by kernel_rfl
def o_laws_FnExactBoardFault_r (N : Nat) {R : Type} (args : List AV) (H : Hp E) (K : AV → Hp E → Option R) : Option R :=
  match args, H with
  | [(Go.Eng.AV.agg [(Go.Eng.SV.int Go.IntKind.i64 n), (Go.Eng.SV.int Go.IntKind.i64 n1), (Go.Eng.SV.slc 0 Option.none b)])], [(Option.some (Go.Eng.HE.mk Bool.true (Go.Eng.HB.rows (Go.Sa.B.lDevice l))))] => g_laws_FnExactBoardFault_r N n n1 b l (fun b2 => K (Go.Eng.AV.sc (Go.Eng.SV.bool b2)) [(Option.some (Go.Eng.HE.mk Bool.true (Go.Eng.HB.rows (Go.Sa.B.lDevice l))))])
  | _, _ => none
theorem o_laws_FnExactBoardFault_r_ok (N : Nat) : FnOk E 5 (o_laws_FnExactBoardFault_r N) := by
  intro R args H K r h
  unfold o_laws_FnExactBoardFault_r at h
  dsimp only at h
  split at h
  · exact fnB_ok (ids := []) (top := []) ok (O_laws_FnExactBoardFault_r_ok N) (jn_ok _ _) Go.Proofs.Try.func5 (by kernel_rfl) (IT := noIt) (sl := sl_laws_FnExactBoardFault_r) (J := J_laws_FnExactBoardFault_r) (K := K) (H := [(Option.some (Go.Eng.HE.mk Bool.true (Go.Eng.HB.rows (Go.Sa.B.lDevice _))))]) (noIt_ok) (by kernel_rfl) rfl ((e_laws_FnExactBoardFault_r N _ _ _ _ K).trans h)
  · cases h
end Go.Sa
