import Derived.Test.YtjimjkhpahegjaaEnv
import Derived.Test.YtjimjkhpahegjaaPL
set_option linter.all false
namespace Go.Sa
open Go Go.Eng Go.Proofs
set_option maxRecDepth 100000
/-! ### loop.example/g00038/impl.yin -/
abbrev sl_impl_yin : SlotT := []
abbrev J_impl_yin : JT := jn [(1, [(6, .b)])] []
noncomputable def O_impl_yin (N : Nat) : Orc E := noFn
theorem O_impl_yin_ok (N : Nat) : OrcOk (O_impl_yin N) := noFn_ok
def g_impl_yin (N : Nat) {R : Type} (n : Int) (n1 : Int) (n2 : Int) (k : Bool → Option R) : Option R :=
  (oK (cond (decide ((n ≥ n1)))
    (some (decide ((n ≤ n2))))
    (some Bool.false)) fun j =>
  (k j))
theorem e_impl_yin (N : Nat) {R : Type} (n : Int) (n1 : Int) (n2 : Int) (K : AV → Hp E → Option R) :
    runFnI (E := E) (O_impl_yin N) (noIt) sl_impl_yin J_impl_yin Go.Proofs.Try.f71 [(Go.Eng.AV.sc (Go.Eng.SV.int Go.IntKind.i64 n)), (Go.Eng.AV.sc (Go.Eng.SV.int Go.IntKind.i64 n1)), (Go.Eng.AV.sc (Go.Eng.SV.int Go.IntKind.i64 n2))] [] K =
      g_impl_yin N n n1 n2 (fun b => K (Go.Eng.AV.sc (Go.Eng.SV.bool b)) []) := by kernel_rfl
def o_impl_yin (N : Nat) {R : Type} (args : List AV) (H : Hp E) (K : AV → Hp E → Option R) : Option R :=
  match args, H with
  | [(Go.Eng.AV.sc (Go.Eng.SV.int Go.IntKind.i64 n)), (Go.Eng.AV.sc (Go.Eng.SV.int Go.IntKind.i64 n1)), (Go.Eng.AV.sc (Go.Eng.SV.int Go.IntKind.i64 n2))], [] => g_impl_yin N n n1 n2 (fun b => K (Go.Eng.AV.sc (Go.Eng.SV.bool b)) [])
  | _, _ => none
theorem o_impl_yin_ok (N : Nat) : FnOk E 71 (o_impl_yin N) := by
  intro R args H K r h
  unfold o_impl_yin at h
  dsimp only at h
  split at h
  · exact fnB_ok (ids := []) (top := []) ok (O_impl_yin_ok N) (jn_ok _ _) Go.Proofs.Try.func71 (by kernel_rfl) (IT := noIt) (sl := sl_impl_yin) (J := J_impl_yin) (K := K) (H := []) (noIt_ok) (by kernel_rfl) rfl ((e_impl_yin N _ _ _ K).trans h)
  · cases h
/-! ### loop.example/g00038/laws.szDeviceS -/
abbrev sl_laws_szDeviceS_r : SlotT := []
abbrev J_laws_szDeviceS_r : JT := jn [] []
noncomputable def O_laws_szDeviceS_r (N : Nat) : Orc E := noFn
theorem O_laws_szDeviceS_r_ok (N : Nat) : OrcOk (O_laws_szDeviceS_r N) := noFn_ok
def g_laws_szDeviceS_r (N : Nat) {R : Type} (b : Bool) (n : Int) (l : List Go.Sa.Device) (k : Int → Option R) : Option R :=
  (cond (decide (((Go.IntKind.wrap Go.IntKind.i64 (n - (((List.length l) : Nat) : Int))) < (0 : Int))))
  (k (-(1 : Int)))
  (k (Go.IntKind.wrap Go.IntKind.i64 (n - (((List.length l) : Nat) : Int)))))
theorem e_laws_szDeviceS_r (N : Nat) {R : Type} (b : Bool) (n : Int) (l : List Go.Sa.Device) (K : AV → Hp E → Option R) :
    runFnI (E := E) (O_laws_szDeviceS_r N) (noIt) sl_laws_szDeviceS_r J_laws_szDeviceS_r Go.Proofs.Try.f77 [(Go.Eng.AV.sc (Go.Eng.SV.slc 0 Option.none b)), (Go.Eng.AV.sc (Go.Eng.SV.int Go.IntKind.i64 n))] [(Option.some (Go.Eng.HE.mk Bool.true (Go.Eng.HB.rows (Go.Sa.B.lDevice l))))] K =
      g_laws_szDeviceS_r N b n l (fun n1 => K (Go.Eng.AV.sc (Go.Eng.SV.int Go.IntKind.i64 n1)) [(Option.some (Go.Eng.HE.mk Bool.true (Go.Eng.HB.rows (Go.Sa.B.lDevice l))))]) := by kernel_rfl
def o_laws_szDeviceS_r (N : Nat) {R : Type} (args : List AV) (H : Hp E) (K : AV → Hp E → Option R) : Option R :=
  match args, H with
  | [(Go.Eng.AV.sc (Go.Eng.SV.slc 0 Option.none b)), (Go.Eng.AV.sc (Go.Eng.SV.int Go.IntKind.i64 n))], [(Option.some (Go.Eng.HE.mk Bool.true (Go.Eng.HB.rows (Go.Sa.B.lDevice l))))] => g_laws_szDeviceS_r N b n l (fun n1 => K (Go.Eng.AV.sc (Go.Eng.SV.int Go.IntKind.i64 n1)) [(Option.some (Go.Eng.HE.mk Bool.true (Go.Eng.HB.rows (Go.Sa.B.lDevice l))))])
  | _, _ => none
theorem o_laws_szDeviceS_r_ok (N : Nat) : FnOk E 77 (o_laws_szDeviceS_r N) := by
  intro R args H K r h
  unfold o_laws_szDeviceS_r at h
  dsimp only at h
  split at h
  · exact fnB_ok (ids := []) (top := []) ok (O_laws_szDeviceS_r_ok N) (jn_ok _ _) Go.Proofs.Try.func77 (by kernel_rfl) (IT := noIt) (sl := sl_laws_szDeviceS_r) (J := J_laws_szDeviceS_r) (K := K) (H := [(Option.some (Go.Eng.HE.mk Bool.true (Go.Eng.HB.rows (Go.Sa.B.lDevice _))))]) (noIt_ok) (by kernel_rfl) rfl ((e_laws_szDeviceS_r N _ _ _ K).trans h)
  · cases h
/-! ### loop.example/g00038/laws.szBoard -/
abbrev sl_laws_szBoard_r : SlotT := []
abbrev J_laws_szBoard_r : JT := jn [] []
noncomputable def O_laws_szBoard_r (N : Nat) : Orc E := addFn 77 (o_laws_szDeviceS_r N) (noFn)
theorem O_laws_szBoard_r_ok (N : Nat) : OrcOk (O_laws_szBoard_r N) := addFn_ok (o_laws_szDeviceS_r_ok N) (noFn_ok)
def g_laws_szBoard_r (N : Nat) {R : Type} (n : Int) (n1 : Int) (b : Bool) (n2 : Int) (l : List Go.Sa.Device) (k : Int → Option R) : Option R :=
  (g_laws_szDeviceS_r N b n2 l fun n3 =>
  (cond (decide ((n3 < (0 : Int))))
  (k (-(1 : Int)))
  (k n3)))
theorem e_laws_szBoard_r (N : Nat) {R : Type} (n : Int) (n1 : Int) (b : Bool) (n2 : Int) (l : List Go.Sa.Device) (K : AV → Hp E → Option R) :
    runFnI (E := E) (O_laws_szBoard_r N) (noIt) sl_laws_szBoard_r J_laws_szBoard_r Go.Proofs.Try.f24 [(Go.Eng.AV.agg [(Go.Eng.SV.int Go.IntKind.i64 n), (Go.Eng.SV.int Go.IntKind.i64 n1), (Go.Eng.SV.slc 0 Option.none b)]), (Go.Eng.AV.sc (Go.Eng.SV.int Go.IntKind.i64 n2))] [(Option.some (Go.Eng.HE.mk Bool.true (Go.Eng.HB.rows (Go.Sa.B.lDevice l))))] K =
      g_laws_szBoard_r N n n1 b n2 l (fun n4 => K (Go.Eng.AV.sc (Go.Eng.SV.int Go.IntKind.i64 n4)) [(Option.some (Go.Eng.HE.mk Bool.true (Go.Eng.HB.rows (Go.Sa.B.lDevice l))))]) := by kernel_rfl
def o_laws_szBoard_r (N : Nat) {R : Type} (args : List AV) (H : Hp E) (K : AV → Hp E → Option R) : Option R :=
  match args, H with
  | [(Go.Eng.AV.agg [(Go.Eng.SV.int Go.IntKind.i64 n), (Go.Eng.SV.int Go.IntKind.i64 n1), (Go.Eng.SV.slc 0 Option.none b)]), (Go.Eng.AV.sc (Go.Eng.SV.int Go.IntKind.i64 n2))], [(Option.some (Go.Eng.HE.mk Bool.true (Go.Eng.HB.rows (Go.Sa.B.lDevice l))))] => g_laws_szBoard_r N n n1 b n2 l (fun n4 => K (Go.Eng.AV.sc (Go.Eng.SV.int Go.IntKind.i64 n4)) [(Option.some (Go.Eng.HE.mk Bool.true (Go.Eng.HB.rows (Go.Sa.B.lDevice l))))])
  | _, _ => none
theorem o_laws_szBoard_r_ok (N : Nat) : FnOk E 24 (o_laws_szBoard_r N) := by
  intro R args H K r h
  unfold o_laws_szBoard_r at h
  dsimp only at h
  split at h
  · exact fnB_ok (ids := []) (top := []) ok (O_laws_szBoard_r_ok N) (jn_ok _ _) Go.Proofs.Try.func24 (by kernel_rfl) (IT := noIt) (sl := sl_laws_szBoard_r) (J := J_laws_szBoard_r) (K := K) (H := [(Option.some (Go.Eng.HE.mk Bool.true (Go.Eng.HB.rows (Go.Sa.B.lDevice _))))]) (noIt_ok) (by kernel_rfl) rfl ((e_laws_szBoard_r N _ _ _ _ _ K).trans h)
  · cases h
/-! ### loop.example/g00038/laws.toDevice -/
abbrev sl_laws_toDevice : SlotT := []
abbrev J_laws_toDevice : JT := jn [] []
noncomputable def O_laws_toDevice (N : Nat) : Orc E := noFn
theorem O_laws_toDevice_ok (N : Nat) : OrcOk (O_laws_toDevice N) := noFn_ok
def g_laws_toDevice (N : Nat) {R : Type} (n : Int) (n1 : Int) (n2 : Int) (k : Option R) : Option R :=
  k
theorem e_laws_toDevice (N : Nat) {R : Type} (n : Int) (n1 : Int) (n2 : Int) (K : AV → Hp E → Option R) :
    runFnI (E := E) (O_laws_toDevice N) (noIt) sl_laws_toDevice J_laws_toDevice Go.Proofs.Try.f134 [(Go.Eng.AV.agg [(Go.Eng.SV.int Go.IntKind.i64 n), (Go.Eng.SV.int Go.IntKind.i64 n1), (Go.Eng.SV.int Go.IntKind.i64 n2)])] [] K =
      g_laws_toDevice N n n1 n2 (K (Go.Eng.AV.agg [(Go.Eng.SV.int Go.IntKind.i64 n), (Go.Eng.SV.int Go.IntKind.i64 n1), (Go.Eng.SV.int Go.IntKind.i64 n2)]) []) := by kernel_rfl
def o_laws_toDevice (N : Nat) {R : Type} (args : List AV) (H : Hp E) (K : AV → Hp E → Option R) : Option R :=
  match args, H with
  | [(Go.Eng.AV.agg [(Go.Eng.SV.int Go.IntKind.i64 n), (Go.Eng.SV.int Go.IntKind.i64 n1), (Go.Eng.SV.int Go.IntKind.i64 n2)])], [] => g_laws_toDevice N n n1 n2 (K (Go.Eng.AV.agg [(Go.Eng.SV.int Go.IntKind.i64 n), (Go.Eng.SV.int Go.IntKind.i64 n1), (Go.Eng.SV.int Go.IntKind.i64 n2)]) [])
  | _, _ => none
theorem o_laws_toDevice_ok (N : Nat) : FnOk E 134 (o_laws_toDevice N) := by
  intro R args H K r h
  unfold o_laws_toDevice at h
  dsimp only at h
  split at h
  · exact fnB_ok (ids := []) (top := []) ok (O_laws_toDevice_ok N) (jn_ok _ _) Go.Proofs.Try.func134 (by kernel_rfl) (IT := noIt) (sl := sl_laws_toDevice) (J := J_laws_toDevice) (K := K) (H := []) (noIt_ok) (by kernel_rfl) rfl ((e_laws_toDevice N _ _ _ K).trans h)
  · cases h
/-! ### loop.example/g00038/laws.toDeviceS -/
abbrev sl_laws_toDeviceS_r : SlotT := [(0, ([0, 3, 4], [3]))]
abbrev J_laws_toDeviceS_r : JT := jn [] []
noncomputable def O_laws_toDeviceS_r (N : Nat) : Orc E := addFn 134 (o_laws_toDevice N) (noFn)
theorem O_laws_toDeviceS_r_ok (N : Nat) : OrcOk (O_laws_toDeviceS_r N) := addFn_ok (o_laws_toDevice_ok N) (noFn_ok)
def s_laws_toDeviceS_r_0 (N : Nat) {R : Type} (b1 : Bool) (b2 : Bool) (l1 : List Go.Sa.Device) (n : Int) (l2 : List Go.Sa.Device) (ag : Int → (List Go.Sa.Device) → Option R)  (kN : (List Go.Sa.Device) → Option R) : Option R :=
  (cond (decide ((n < (((List.length l1) : Nat) : Int))))
  (cond ((decide (((0 : Int) ≤ n))) && (decide ((n < (((List.length l1) : Nat) : Int)))))
    (elemK l1 (Int.toNat n) fun x =>
      (g_laws_toDevice N (Go.Sa.Device.fKind x) (Go.Sa.Device.fPort x) (Go.Sa.Device.fLine x) 
      (cond ((decide (((0 : Int) ≤ n))) && (decide ((n < (((List.length l2) : Nat) : Int)))))
      (elemK l2 (Int.toNat n) fun x1 =>
        (cond (Nat.blt (Int.toNat n) (List.length l2))
        (ag (Go.IntKind.wrap Go.IntKind.i64 (n + (1 : Int))) (Go.Eng.nset l2 (Int.toNat n) (Go.Sa.Device.mk (Go.Sa.Device.fKind x) (Go.Sa.Device.fPort x) (Go.Sa.Device.fLine x))))
        none))
      none)))
    none)
  (kN l2))
def l_laws_toDeviceS_r_0 (N : Nat) {R : Type} (b1 : Bool) (b2 : Bool) (l1 : List Go.Sa.Device) (kN : (List Go.Sa.Device) → Option R) : Nat → Int → (List Go.Sa.Device) → Option R
  | 0, _, _ => none
  | f + 1, n, l2 => s_laws_toDeviceS_r_0 N b1 b2 l1 n l2 (fun n l2 => l_laws_toDeviceS_r_0 N b1 b2 l1 kN f n l2)  kN
def c_laws_toDeviceS_r_0 (N : Nat) {R : Type} (b1 : Bool) (b2 : Bool) (l1 : List Go.Sa.Device) (n : Int) (l2 : List Go.Sa.Device) (kN : (List Go.Sa.Device) → Option R) : Option R := l_laws_toDeviceS_r_0 N b1 b2 l1 kN N n l2
theorem se_laws_toDeviceS_r_0 (N : Nat) {R : Type} (b1 : Bool) (b2 : Bool) (l1 : List Go.Sa.Device) (n : Int) (l2 : List Go.Sa.Device) (AG : List (Option AV) → Hp E → Option R) (KL : Ex → List (Option AV) → Hp E → Option R) :
    iterStep (E := E) (O_laws_toDeviceS_r N) (fun {R} => LI (noIt) 1 23 sl_laws_toDeviceS_r (R := R)) J_laws_toDeviceS_r 1 23 0 [0, 3, 4] [3] (body Go.Proofs.Try.f78 0) AG KL [(Option.some (Go.Eng.AV.sc (Go.Eng.SV.slc 0 Option.none b1))), (Option.some (Go.Eng.AV.sc (Go.Eng.SV.slc 1 Option.none b2))), (Option.some (Go.Eng.AV.sc (Go.Eng.SV.int Go.IntKind.i64 n)))] [(Option.some (Go.Eng.HE.mk Bool.true (Go.Eng.HB.rows (Go.Sa.B.lDevice l1)))), (Option.some (Go.Eng.HE.mk Bool.false (Go.Eng.HB.rows (Go.Sa.B.iDevice l2))))] =
      s_laws_toDeviceS_r_0 N b1 b2 l1 n l2 (fun n l2 => AG [(Option.some (Go.Eng.AV.sc (Go.Eng.SV.slc 0 Option.none b1))), (Option.some (Go.Eng.AV.sc (Go.Eng.SV.slc 1 Option.none b2))), (Option.some (Go.Eng.AV.sc (Go.Eng.SV.int Go.IntKind.i64 n)))] [(Option.some (Go.Eng.HE.mk Bool.true (Go.Eng.HB.rows (Go.Sa.B.lDevice l1)))), (Option.some (Go.Eng.HE.mk Bool.false (Go.Eng.HB.rows (Go.Sa.B.iDevice l2))))])  (fun l5 => KL Go.Eng.Ex.normal [(Option.some (Go.Eng.AV.sc (Go.Eng.SV.slc 1 Option.none b2)))] [(Option.some (Go.Eng.HE.mk Bool.true (Go.Eng.HB.rows (Go.Sa.B.lDevice l1)))), (Option.some (Go.Eng.HE.mk Bool.false (Go.Eng.HB.rows (Go.Sa.B.iDevice l5))))]) := by kernel_rfl
theorem le_laws_toDeviceS_r_0 (N : Nat) {R : Type} (b1 : Bool) (b2 : Bool) (l1 : List Go.Sa.Device) (KL : Ex → List (Option AV) → Hp E → Option R) : ∀ (f : Nat), ∀ (n : Int) (l2 : List Go.Sa.Device), iterK (E := E) (O_laws_toDeviceS_r N) (fun {R} => LI (noIt) 1 23 sl_laws_toDeviceS_r (R := R)) J_laws_toDeviceS_r 1 23 0 [0, 3, 4] [3] (body Go.Proofs.Try.f78 0) f [(Option.some (Go.Eng.AV.sc (Go.Eng.SV.slc 0 Option.none b1))), (Option.some (Go.Eng.AV.sc (Go.Eng.SV.slc 1 Option.none b2))), (Option.some (Go.Eng.AV.sc (Go.Eng.SV.int Go.IntKind.i64 n)))] [(Option.some (Go.Eng.HE.mk Bool.true (Go.Eng.HB.rows (Go.Sa.B.lDevice l1)))), (Option.some (Go.Eng.HE.mk Bool.false (Go.Eng.HB.rows (Go.Sa.B.iDevice l2))))] KL = l_laws_toDeviceS_r_0 N b1 b2 l1 (fun l5 => KL Go.Eng.Ex.normal [(Option.some (Go.Eng.AV.sc (Go.Eng.SV.slc 1 Option.none b2)))] [(Option.some (Go.Eng.HE.mk Bool.true (Go.Eng.HB.rows (Go.Sa.B.lDevice l1)))), (Option.some (Go.Eng.HE.mk Bool.false (Go.Eng.HB.rows (Go.Sa.B.iDevice l5))))]) f n l2 := by
  intro f
  induction f with
  | zero => intros; rfl
  | succ f ih =>
    intro n l2
    rw [iterK_succ, se_laws_toDeviceS_r_0]
    exact (congrArg (fun z0 => s_laws_toDeviceS_r_0 N b1 b2 l1 n l2 z0 (fun l5 => KL Go.Eng.Ex.normal [(Option.some (Go.Eng.AV.sc (Go.Eng.SV.slc 1 Option.none b2)))] [(Option.some (Go.Eng.HE.mk Bool.true (Go.Eng.HB.rows (Go.Sa.B.lDevice l1)))), (Option.some (Go.Eng.HE.mk Bool.false (Go.Eng.HB.rows (Go.Sa.B.iDevice l5))))])) (funext fun n => funext fun l2 => ih n l2))
def i_laws_toDeviceS_r_0 (N : Nat) {R : Type} (vs : List (Option AV)) (H : Hp E) (KL : Ex → List (Option AV) → Hp E → Option R) : Option R :=
  match vs, H with
  | [(Option.some (Go.Eng.AV.sc (Go.Eng.SV.slc 0 Option.none b1))), (Option.some (Go.Eng.AV.sc (Go.Eng.SV.slc 1 Option.none b2))), (Option.some (Go.Eng.AV.sc (Go.Eng.SV.int Go.IntKind.i64 n)))], [(Option.some (Go.Eng.HE.mk Bool.true (Go.Eng.HB.rows (Go.Sa.B.lDevice l1)))), (Option.some (Go.Eng.HE.mk Bool.false (Go.Eng.HB.rows (Go.Sa.B.iDevice l2))))] => c_laws_toDeviceS_r_0 N b1 b2 l1 n l2 (fun l6 => KL Go.Eng.Ex.normal [(Option.some (Go.Eng.AV.sc (Go.Eng.SV.slc 1 Option.none b2)))] [(Option.some (Go.Eng.HE.mk Bool.true (Go.Eng.HB.rows (Go.Sa.B.lDevice l1)))), (Option.some (Go.Eng.HE.mk Bool.false (Go.Eng.HB.rows (Go.Sa.B.iDevice l6))))])
  | _, _ => none
noncomputable def IT_laws_toDeviceS_r_0 (N : Nat) : Its E := addIt 0 (i_laws_toDeviceS_r_0 N) (noIt)
theorem IT_laws_toDeviceS_r_0_ok (N : Nat) : ItOk (IT_laws_toDeviceS_r_0 N) 1 23 sl_laws_toDeviceS_r (lsB Go.Proofs.Try.f78 [0]) :=
  addItB_ok (inner := []) ok (O_laws_toDeviceS_r_ok N) (jn_ok _ _) (noIt_ok) rfl (by kernel_rfl) rfl fun vs H KL r h => by
    unfold i_laws_toDeviceS_r_0 at h
    split at h
    · exact ⟨_, (le_laws_toDeviceS_r_0 N _ _ _ KL N _ _).trans h⟩
    · cases h
def g_laws_toDeviceS_r (N : Nat) {R : Type} (b : Bool) (l : List Go.Sa.Device) (k : (List Go.Sa.Device) → Option R) : Option R :=
  (cond (((decide (((((List.length l) : Nat) : Int) = (((List.length l) : Nat) : Int)))) && Bool.true) && (Go.Eng.roomOk (Int.toNat (((List.length l) : Nat) : Int)) 24))
  (c_laws_toDeviceS_r_0 N b Bool.false l (0 : Int) (List.replicate (Int.toNat (((List.length l) : Nat) : Int)) (Go.Sa.Device.mk (0 : Int) (0 : Int) (0 : Int))) fun l3 =>
    (k l3))
  none)
theorem e_laws_toDeviceS_r (N : Nat) {R : Type} (b : Bool) (l : List Go.Sa.Device) (K : AV → Hp E → Option R) :
    runFnI (E := E) (O_laws_toDeviceS_r N) (IT_laws_toDeviceS_r_0 N) sl_laws_toDeviceS_r J_laws_toDeviceS_r Go.Proofs.Try.f78 [(Go.Eng.AV.sc (Go.Eng.SV.slc 0 Option.none b))] [(Option.some (Go.Eng.HE.mk Bool.true (Go.Eng.HB.rows (Go.Sa.B.lDevice l))))] K =
      g_laws_toDeviceS_r N b l (fun l4 => K (Go.Eng.AV.sc (Go.Eng.SV.slc 1 Option.none Bool.false)) [(Option.some (Go.Eng.HE.mk Bool.true (Go.Eng.HB.rows (Go.Sa.B.lDevice l)))), (Option.some (Go.Eng.HE.mk Bool.false (Go.Eng.HB.rows (Go.Sa.B.iDevice l4))))]) := by kernel_rfl
def o_laws_toDeviceS_r (N : Nat) {R : Type} (args : List AV) (H : Hp E) (K : AV → Hp E → Option R) : Option R :=
  match args, H with
  | [(Go.Eng.AV.sc (Go.Eng.SV.slc 0 Option.none b))], [(Option.some (Go.Eng.HE.mk Bool.true (Go.Eng.HB.rows (Go.Sa.B.lDevice l))))] => g_laws_toDeviceS_r N b l (fun l4 => K (Go.Eng.AV.sc (Go.Eng.SV.slc 1 Option.none Bool.false)) [(Option.some (Go.Eng.HE.mk Bool.true (Go.Eng.HB.rows (Go.Sa.B.lDevice l)))), (Option.some (Go.Eng.HE.mk Bool.false (Go.Eng.HB.rows (Go.Sa.B.iDevice l4))))])
  | _, _ => none
theorem o_laws_toDeviceS_r_ok (N : Nat) : FnOk E 78 (o_laws_toDeviceS_r N) := by
  intro R args H K r h
  unfold o_laws_toDeviceS_r at h
  dsimp only at h
  split at h
  · exact fnB_ok (ids := [0]) (top := [0]) ok (O_laws_toDeviceS_r_ok N) (jn_ok _ _) Go.Proofs.Try.func78 (by kernel_rfl) (IT := IT_laws_toDeviceS_r_0 N) (sl := sl_laws_toDeviceS_r) (J := J_laws_toDeviceS_r) (K := K) (H := [(Option.some (Go.Eng.HE.mk Bool.true (Go.Eng.HB.rows (Go.Sa.B.lDevice _))))]) (IT_laws_toDeviceS_r_0_ok N) (by kernel_rfl) rfl ((e_laws_toDeviceS_r N _ _ K).trans h)
  · cases h
/-! ### loop.example/g00038/laws.toBoard -/
abbrev sl_laws_toBoard_r : SlotT := []
abbrev J_laws_toBoard_r : JT := jn [] []
noncomputable def O_laws_toBoard_r (N : Nat) : Orc E := addFn 78 (o_laws_toDeviceS_r N) (noFn)
theorem O_laws_toBoard_r_ok (N : Nat) : OrcOk (O_laws_toBoard_r N) := addFn_ok (o_laws_toDeviceS_r_ok N) (noFn_ok)
def g_laws_toBoard_r (N : Nat) {R : Type} (n : Int) (n1 : Int) (b : Bool) (l : List Go.Sa.Device) (k : (List Go.Sa.Device) → Option R) : Option R :=
  (g_laws_toDeviceS_r N b l fun l1 =>
  (k l1))
theorem e_laws_toBoard_r (N : Nat) {R : Type} (n : Int) (n1 : Int) (b : Bool) (l : List Go.Sa.Device) (K : AV → Hp E → Option R) :
    runFnI (E := E) (O_laws_toBoard_r N) (noIt) sl_laws_toBoard_r J_laws_toBoard_r Go.Proofs.Try.f26 [(Go.Eng.AV.agg [(Go.Eng.SV.int Go.IntKind.i64 n), (Go.Eng.SV.int Go.IntKind.i64 n1), (Go.Eng.SV.slc 0 Option.none b)])] [(Option.some (Go.Eng.HE.mk Bool.true (Go.Eng.HB.rows (Go.Sa.B.lDevice l))))] K =
      g_laws_toBoard_r N n n1 b l (fun l2 => K (Go.Eng.AV.agg [(Go.Eng.SV.int Go.IntKind.i64 n), (Go.Eng.SV.int Go.IntKind.i64 n1), (Go.Eng.SV.slc 1 Option.none Bool.false)]) [(Option.some (Go.Eng.HE.mk Bool.true (Go.Eng.HB.rows (Go.Sa.B.lDevice l)))), (Option.some (Go.Eng.HE.mk Bool.false (Go.Eng.HB.rows (Go.Sa.B.iDevice l2))))]) := by kernel_rfl
def o_laws_toBoard_r (N : Nat) {R : Type} (args : List AV) (H : Hp E) (K : AV → Hp E → Option R) : Option R :=
  match args, H with
  | [(Go.Eng.AV.agg [(Go.Eng.SV.int Go.IntKind.i64 n), (Go.Eng.SV.int Go.IntKind.i64 n1), (Go.Eng.SV.slc 0 Option.none b)])], [(Option.some (Go.Eng.HE.mk Bool.true (Go.Eng.HB.rows (Go.Sa.B.lDevice l))))] => g_laws_toBoard_r N n n1 b l (fun l2 => K (Go.Eng.AV.agg [(Go.Eng.SV.int Go.IntKind.i64 n), (Go.Eng.SV.int Go.IntKind.i64 n1), (Go.Eng.SV.slc 1 Option.none Bool.false)]) [(Option.some (Go.Eng.HE.mk Bool.true (Go.Eng.HB.rows (Go.Sa.B.lDevice l)))), (Option.some (Go.Eng.HE.mk Bool.false (Go.Eng.HB.rows (Go.Sa.B.iDevice l2))))])
  | _, _ => none
theorem o_laws_toBoard_r_ok (N : Nat) : FnOk E 26 (o_laws_toBoard_r N) := by
  intro R args H K r h
  unfold o_laws_toBoard_r at h
  dsimp only at h
  split at h
  · exact fnB_ok (ids := []) (top := []) ok (O_laws_toBoard_r_ok N) (jn_ok _ _) Go.Proofs.Try.func26 (by kernel_rfl) (IT := noIt) (sl := sl_laws_toBoard_r) (J := J_laws_toBoard_r) (K := K) (H := [(Option.some (Go.Eng.HE.mk Bool.true (Go.Eng.HB.rows (Go.Sa.B.lDevice _))))]) (noIt_ok) (by kernel_rfl) rfl ((e_laws_toBoard_r N _ _ _ _ K).trans h)
  · cases h
/-! ### loop.example/g00038/spec.BoardFault -/
abbrev sl_spec_BoardFault_w : SlotT := [(0, ([1, 3], [2]))]
abbrev J_spec_BoardFault_w : JT := jn [(1, [(28, .b)]), (7, [(84, .b)])] []
noncomputable def O_spec_BoardFault_w (N : Nat) : Orc E := noFn
theorem O_spec_BoardFault_w_ok (N : Nat) : OrcOk (O_spec_BoardFault_w N) := noFn_ok
def s_spec_BoardFault_w_0 (N : Nat) {R : Type} (l1 : List Go.Sa.Device) (n3 : Int) (n4 : Int) (b1 : Bool) (n2 : Int) (ag : Int → Option R)  (kR : Option R) (kN : Option R) : Option R :=
  (cond (decide ((n2 < (((List.length l1) : Nat) : Int))))
  (cond ((decide (((0 : Int) ≤ n2))) && (decide ((n2 < (((List.length l1) : Nat) : Int)))))
    (elemK l1 (Int.toNat n2) fun x =>
      (oK (cond (decide (((Go.Sa.Device.fKind x) < (1 : Int))))
        (some Bool.true)
        (cond (decide (((Go.Sa.Device.fKind x) > (255 : Int))))
          (some Bool.true)
          (cond (decide (((Go.Sa.Device.fPort x) < (0 : Int))))
            (some Bool.true)
            (cond (decide (((Go.Sa.Device.fPort x) > (2047 : Int))))
              (some Bool.true)
              (cond (decide (((Go.Sa.Device.fLine x) < (0 : Int))))
                (some Bool.true)
                (cond (decide (((Go.Sa.Device.fLine x) > (6 : Int))))
                  (some Bool.true)
                  (cond (decide ((n2 > (0 : Int))))
                    (cond ((decide (((0 : Int) ≤ (Go.IntKind.wrap Go.IntKind.i64 (n2 - (1 : Int)))))) && (decide (((Go.IntKind.wrap Go.IntKind.i64 (n2 - (1 : Int))) < (((List.length l1) : Nat) : Int)))))
                      (elemK l1 (Int.toNat (Go.IntKind.wrap Go.IntKind.i64 (n2 - (1 : Int)))) fun x1 =>
                        (some (decide (((Go.Sa.Device.fPort x1) ≥ (Go.Sa.Device.fPort x))))))
                      none)
                    (some Bool.false)))))))) fun j1 =>
      (cond j1
      kR
      (ag (Go.IntKind.wrap Go.IntKind.i64 (n2 + (1 : Int)))))))
    none)
  kN)
def l_spec_BoardFault_w_0 (N : Nat) {R : Type} (l1 : List Go.Sa.Device) (n3 : Int) (n4 : Int) (b1 : Bool) (kR : Option R) (kN : Option R) : Nat → Int → Option R
  | 0, _ => none
  | f + 1, n2 => s_spec_BoardFault_w_0 N l1 n3 n4 b1 n2 (fun n2 => l_spec_BoardFault_w_0 N l1 n3 n4 b1 kR kN f n2)  kR kN
def c_spec_BoardFault_w_0 (N : Nat) {R : Type} (l1 : List Go.Sa.Device) (n3 : Int) (n4 : Int) (b1 : Bool) (n2 : Int) (kR : Option R) (kN : Option R) : Option R := l_spec_BoardFault_w_0 N l1 n3 n4 b1 kR kN N n2
theorem se_spec_BoardFault_w_0 (N : Nat) {R : Type} (l1 : List Go.Sa.Device) (n3 : Int) (n4 : Int) (b1 : Bool) (n2 : Int) (AG : List (Option AV) → Hp E → Option R) (KL : Ex → List (Option AV) → Hp E → Option R) :
    iterStep (E := E) (O_spec_BoardFault_w N) (fun {R} => LI (noIt) 1 85 sl_spec_BoardFault_w (R := R)) J_spec_BoardFault_w 1 85 0 [1, 3] [2] (body Go.Proofs.Try.f25 0) AG KL [(Option.some (Go.Eng.AV.sc (Go.Eng.SV.ptr 1 0 0))), (Option.some (Go.Eng.AV.sc (Go.Eng.SV.int Go.IntKind.i64 n2)))] [(Option.some (Go.Eng.HE.mk Bool.false (Go.Eng.HB.rows (Go.Sa.B.iDevice l1)))), (Option.some (Go.Eng.HE.mk Bool.false (Go.Eng.HB.exp [(Go.Eng.SV.int Go.IntKind.i64 n3), (Go.Eng.SV.int Go.IntKind.i64 n4), (Go.Eng.SV.slc 0 Option.none b1)])))] =
      s_spec_BoardFault_w_0 N l1 n3 n4 b1 n2 (fun n2 => AG [(Option.some (Go.Eng.AV.sc (Go.Eng.SV.ptr 1 0 0))), (Option.some (Go.Eng.AV.sc (Go.Eng.SV.int Go.IntKind.i64 n2)))] [(Option.some (Go.Eng.HE.mk Bool.false (Go.Eng.HB.rows (Go.Sa.B.iDevice l1)))), (Option.some (Go.Eng.HE.mk Bool.false (Go.Eng.HB.exp [(Go.Eng.SV.int Go.IntKind.i64 n3), (Go.Eng.SV.int Go.IntKind.i64 n4), (Go.Eng.SV.slc 0 Option.none b1)])))])  (KL Go.Eng.Ex.ret [(Option.some (Go.Eng.AV.sc (Go.Eng.SV.int Go.IntKind.i64 (1 : Int))))] [(Option.some (Go.Eng.HE.mk Bool.false (Go.Eng.HB.rows (Go.Sa.B.iDevice l1))))]) (KL Go.Eng.Ex.normal [Option.none] [(Option.some (Go.Eng.HE.mk Bool.false (Go.Eng.HB.rows (Go.Sa.B.iDevice l1))))]) := by kernel_rfl
theorem le_spec_BoardFault_w_0 (N : Nat) {R : Type} (l1 : List Go.Sa.Device) (n3 : Int) (n4 : Int) (b1 : Bool) (KL : Ex → List (Option AV) → Hp E → Option R) : ∀ (f : Nat), ∀ (n2 : Int), iterK (E := E) (O_spec_BoardFault_w N) (fun {R} => LI (noIt) 1 85 sl_spec_BoardFault_w (R := R)) J_spec_BoardFault_w 1 85 0 [1, 3] [2] (body Go.Proofs.Try.f25 0) f [(Option.some (Go.Eng.AV.sc (Go.Eng.SV.ptr 1 0 0))), (Option.some (Go.Eng.AV.sc (Go.Eng.SV.int Go.IntKind.i64 n2)))] [(Option.some (Go.Eng.HE.mk Bool.false (Go.Eng.HB.rows (Go.Sa.B.iDevice l1)))), (Option.some (Go.Eng.HE.mk Bool.false (Go.Eng.HB.exp [(Go.Eng.SV.int Go.IntKind.i64 n3), (Go.Eng.SV.int Go.IntKind.i64 n4), (Go.Eng.SV.slc 0 Option.none b1)])))] KL = l_spec_BoardFault_w_0 N l1 n3 n4 b1 (KL Go.Eng.Ex.ret [(Option.some (Go.Eng.AV.sc (Go.Eng.SV.int Go.IntKind.i64 (1 : Int))))] [(Option.some (Go.Eng.HE.mk Bool.false (Go.Eng.HB.rows (Go.Sa.B.iDevice l1))))]) (KL Go.Eng.Ex.normal [Option.none] [(Option.some (Go.Eng.HE.mk Bool.false (Go.Eng.HB.rows (Go.Sa.B.iDevice l1))))]) f n2 := by
  intro f
  induction f with
  | zero => intros; rfl
  | succ f ih =>
    intro n2
    rw [iterK_succ, se_spec_BoardFault_w_0]
    exact (congrArg (fun z0 => s_spec_BoardFault_w_0 N l1 n3 n4 b1 n2 z0 (KL Go.Eng.Ex.ret [(Option.some (Go.Eng.AV.sc (Go.Eng.SV.int Go.IntKind.i64 (1 : Int))))] [(Option.some (Go.Eng.HE.mk Bool.false (Go.Eng.HB.rows (Go.Sa.B.iDevice l1))))]) (KL Go.Eng.Ex.normal [Option.none] [(Option.some (Go.Eng.HE.mk Bool.false (Go.Eng.HB.rows (Go.Sa.B.iDevice l1))))])) (funext fun n2 => ih n2))
def i_spec_BoardFault_w_0 (N : Nat) {R : Type} (vs : List (Option AV)) (H : Hp E) (KL : Ex → List (Option AV) → Hp E → Option R) : Option R :=
  match vs, H with
  | [(Option.some (Go.Eng.AV.sc (Go.Eng.SV.ptr 1 0 0))), (Option.some (Go.Eng.AV.sc (Go.Eng.SV.int Go.IntKind.i64 n2)))], [(Option.some (Go.Eng.HE.mk Bool.false (Go.Eng.HB.rows (Go.Sa.B.iDevice l1)))), (Option.some (Go.Eng.HE.mk Bool.false (Go.Eng.HB.exp [(Go.Eng.SV.int Go.IntKind.i64 n3), (Go.Eng.SV.int Go.IntKind.i64 n4), (Go.Eng.SV.slc 0 Option.none b1)])))] => c_spec_BoardFault_w_0 N l1 n3 n4 b1 n2 (KL Go.Eng.Ex.ret [(Option.some (Go.Eng.AV.sc (Go.Eng.SV.int Go.IntKind.i64 (1 : Int))))] [(Option.some (Go.Eng.HE.mk Bool.false (Go.Eng.HB.rows (Go.Sa.B.iDevice l1))))]) (KL Go.Eng.Ex.normal [Option.none] [(Option.some (Go.Eng.HE.mk Bool.false (Go.Eng.HB.rows (Go.Sa.B.iDevice l1))))])
  | _, _ => none
noncomputable def IT_spec_BoardFault_w_0 (N : Nat) : Its E := addIt 0 (i_spec_BoardFault_w_0 N) (noIt)
theorem IT_spec_BoardFault_w_0_ok (N : Nat) : ItOk (IT_spec_BoardFault_w_0 N) 1 85 sl_spec_BoardFault_w (lsB Go.Proofs.Try.f25 [0]) :=
  addItB_ok (inner := []) ok (O_spec_BoardFault_w_ok N) (jn_ok _ _) (noIt_ok) rfl (by kernel_rfl) rfl fun vs H KL r h => by
    unfold i_spec_BoardFault_w_0 at h
    split at h
    · exact ⟨_, (le_spec_BoardFault_w_0 N _ _ _ _ KL N _).trans h⟩
    · cases h
def g_spec_BoardFault_w (N : Nat) {R : Type} (n : Int) (n1 : Int) (b : Bool) (l : List Go.Sa.Device) (k : Int → Option R) : Option R :=
  (oK (cond (decide ((n < (2 : Int))))
    (some Bool.true)
    (cond (decide ((n > (256 : Int))))
      (some Bool.true)
      (cond (decide ((n1 < (1 : Int))))
        (some Bool.true)
        (cond (decide ((n1 > (8 : Int))))
          (some Bool.true)
          (some (decide (((((List.length l) : Nat) : Int) > (16 : Int))))))))) fun j =>
  (cond j
  (k (1 : Int))
  (c_spec_BoardFault_w_0 N l n n1 b (0 : Int) (
    (k (1 : Int))) (
    (k (0 : Int))))))
theorem e_spec_BoardFault_w (N : Nat) {R : Type} (n : Int) (n1 : Int) (b : Bool) (l : List Go.Sa.Device) (K : AV → Hp E → Option R) :
    runFnI (E := E) (O_spec_BoardFault_w N) (IT_spec_BoardFault_w_0 N) sl_spec_BoardFault_w J_spec_BoardFault_w Go.Proofs.Try.f25 [(Go.Eng.AV.agg [(Go.Eng.SV.int Go.IntKind.i64 n), (Go.Eng.SV.int Go.IntKind.i64 n1), (Go.Eng.SV.slc 0 Option.none b)])] [(Option.some (Go.Eng.HE.mk Bool.false (Go.Eng.HB.rows (Go.Sa.B.iDevice l))))] K =
      g_spec_BoardFault_w N n n1 b l (fun n5 => K (Go.Eng.AV.sc (Go.Eng.SV.int Go.IntKind.i64 n5)) [(Option.some (Go.Eng.HE.mk Bool.false (Go.Eng.HB.rows (Go.Sa.B.iDevice l))))]) := by kernel_rfl
def o_spec_BoardFault_w (N : Nat) {R : Type} (args : List AV) (H : Hp E) (K : AV → Hp E → Option R) : Option R :=
  match args, H with
  | [(Go.Eng.AV.agg [(Go.Eng.SV.int Go.IntKind.i64 n), (Go.Eng.SV.int Go.IntKind.i64 n1), (Go.Eng.SV.slc 0 Option.none b)])], [(Option.some (Go.Eng.HE.mk Bool.false (Go.Eng.HB.rows (Go.Sa.B.iDevice l))))] => g_spec_BoardFault_w N n n1 b l (fun n5 => K (Go.Eng.AV.sc (Go.Eng.SV.int Go.IntKind.i64 n5)) [(Option.some (Go.Eng.HE.mk Bool.false (Go.Eng.HB.rows (Go.Sa.B.iDevice l))))])
  | _, _ => none
theorem o_spec_BoardFault_w_ok (N : Nat) : FnOk E 25 (o_spec_BoardFault_w N) := by
  intro R args H K r h
  unfold o_spec_BoardFault_w at h
  dsimp only at h
  split at h
  · exact fnB_ok (ids := [0]) (top := [0]) ok (O_spec_BoardFault_w_ok N) (jn_ok _ _) Go.Proofs.Try.func25 (by kernel_rfl) (IT := IT_spec_BoardFault_w_0 N) (sl := sl_spec_BoardFault_w) (J := J_spec_BoardFault_w) (K := K) (H := [(Option.some (Go.Eng.HE.mk Bool.false (Go.Eng.HB.rows (Go.Sa.B.iDevice _))))]) (IT_spec_BoardFault_w_0_ok N) (by kernel_rfl) rfl ((e_spec_BoardFault_w N _ _ _ _ K).trans h)
  · cases h
/-! ### loop.example/g00038/impl.BoardFault -/
abbrev sl_impl_BoardFault_w : SlotT := [(0, ([1, 22, 23, 24], [2]))]
abbrev J_impl_BoardFault_w : JT := jn [(1, [(20, .b)]), (6, [(60, .b)])] []
noncomputable def O_impl_BoardFault_w (N : Nat) : Orc E := addFn 71 (o_impl_yin N) (noFn)
theorem O_impl_BoardFault_w_ok (N : Nat) : OrcOk (O_impl_BoardFault_w N) := addFn_ok (o_impl_yin_ok N) (noFn_ok)
def s_impl_BoardFault_w_0 (N : Nat) {R : Type} (b3 : Bool) (n2 : Int) (l1 : List Go.Sa.Device) (n4 : Int) (n5 : Int) (b4 : Bool) (n3 : Int) (ag : Int → Option R)  (kR : Option R) (kN : Option R) : Option R :=
  (cond (decide ((n3 < n2)))
  (cond ((decide (((0 : Int) ≤ n3))) && (decide ((n3 < (((List.length l1) : Nat) : Int)))))
    (elemK l1 (Int.toNat n3) fun x =>
      (oK (g_impl_yin N (Go.Sa.Device.fKind x) (1 : Int) (255 : Int) fun b5 =>
        (cond (!b5)
        (some Bool.true)
        (g_impl_yin N (Go.Sa.Device.fPort x) (0 : Int) (2047 : Int) fun b6 =>
          (cond (!b6)
          (some Bool.true)
          (g_impl_yin N (Go.Sa.Device.fLine x) (0 : Int) (6 : Int) fun b7 =>
            (cond (!b7)
            (some Bool.true)
            (cond (decide ((n3 > (0 : Int))))
              (cond ((decide (((0 : Int) ≤ (Go.IntKind.wrap Go.IntKind.i64 (n3 - (1 : Int)))))) && (decide (((Go.IntKind.wrap Go.IntKind.i64 (n3 - (1 : Int))) < (((List.length l1) : Nat) : Int)))))
                (elemK l1 (Int.toNat (Go.IntKind.wrap Go.IntKind.i64 (n3 - (1 : Int)))) fun x1 =>
                  (some (decide (((Go.Sa.Device.fPort x1) ≥ (Go.Sa.Device.fPort x))))))
                none)
              (some Bool.false)))))))) fun j1 =>
      (cond j1
      kR
      (ag (Go.IntKind.wrap Go.IntKind.i64 (n3 + (1 : Int)))))))
    none)
  kN)
def l_impl_BoardFault_w_0 (N : Nat) {R : Type} (b3 : Bool) (n2 : Int) (l1 : List Go.Sa.Device) (n4 : Int) (n5 : Int) (b4 : Bool) (kR : Option R) (kN : Option R) : Nat → Int → Option R
  | 0, _ => none
  | f + 1, n3 => s_impl_BoardFault_w_0 N b3 n2 l1 n4 n5 b4 n3 (fun n3 => l_impl_BoardFault_w_0 N b3 n2 l1 n4 n5 b4 kR kN f n3)  kR kN
def c_impl_BoardFault_w_0 (N : Nat) {R : Type} (b3 : Bool) (n2 : Int) (l1 : List Go.Sa.Device) (n4 : Int) (n5 : Int) (b4 : Bool) (n3 : Int) (kR : Option R) (kN : Option R) : Option R := l_impl_BoardFault_w_0 N b3 n2 l1 n4 n5 b4 kR kN N n3
theorem se_impl_BoardFault_w_0 (N : Nat) {R : Type} (b3 : Bool) (n2 : Int) (l1 : List Go.Sa.Device) (n4 : Int) (n5 : Int) (b4 : Bool) (n3 : Int) (AG : List (Option AV) → Hp E → Option R) (KL : Ex → List (Option AV) → Hp E → Option R) :
    iterStep (E := E) (O_impl_BoardFault_w N) (fun {R} => LI (noIt) 1 62 sl_impl_BoardFault_w (R := R)) J_impl_BoardFault_w 1 62 0 [1, 22, 23, 24] [2] (body Go.Proofs.Try.f27 0) AG KL [(Option.some (Go.Eng.AV.sc (Go.Eng.SV.ptr 1 0 0))), (Option.some (Go.Eng.AV.sc (Go.Eng.SV.slc 0 Option.none b3))), (Option.some (Go.Eng.AV.sc (Go.Eng.SV.int Go.IntKind.i64 n2))), (Option.some (Go.Eng.AV.sc (Go.Eng.SV.int Go.IntKind.i64 n3)))] [(Option.some (Go.Eng.HE.mk Bool.false (Go.Eng.HB.rows (Go.Sa.B.iDevice l1)))), (Option.some (Go.Eng.HE.mk Bool.false (Go.Eng.HB.exp [(Go.Eng.SV.int Go.IntKind.i64 n4), (Go.Eng.SV.int Go.IntKind.i64 n5), (Go.Eng.SV.slc 0 Option.none b4)])))] =
      s_impl_BoardFault_w_0 N b3 n2 l1 n4 n5 b4 n3 (fun n3 => AG [(Option.some (Go.Eng.AV.sc (Go.Eng.SV.ptr 1 0 0))), (Option.some (Go.Eng.AV.sc (Go.Eng.SV.slc 0 Option.none b3))), (Option.some (Go.Eng.AV.sc (Go.Eng.SV.int Go.IntKind.i64 n2))), (Option.some (Go.Eng.AV.sc (Go.Eng.SV.int Go.IntKind.i64 n3)))] [(Option.some (Go.Eng.HE.mk Bool.false (Go.Eng.HB.rows (Go.Sa.B.iDevice l1)))), (Option.some (Go.Eng.HE.mk Bool.false (Go.Eng.HB.exp [(Go.Eng.SV.int Go.IntKind.i64 n4), (Go.Eng.SV.int Go.IntKind.i64 n5), (Go.Eng.SV.slc 0 Option.none b4)])))])  (KL Go.Eng.Ex.ret [(Option.some (Go.Eng.AV.sc (Go.Eng.SV.int Go.IntKind.i64 (1 : Int))))] [(Option.some (Go.Eng.HE.mk Bool.false (Go.Eng.HB.rows (Go.Sa.B.iDevice l1))))]) (KL Go.Eng.Ex.normal [Option.none] [(Option.some (Go.Eng.HE.mk Bool.false (Go.Eng.HB.rows (Go.Sa.B.iDevice l1))))]) := by kernel_rfl
theorem le_impl_BoardFault_w_0 (N : Nat) {R : Type} (b3 : Bool) (n2 : Int) (l1 : List Go.Sa.Device) (n4 : Int) (n5 : Int) (b4 : Bool) (KL : Ex → List (Option AV) → Hp E → Option R) : ∀ (f : Nat), ∀ (n3 : Int), iterK (E := E) (O_impl_BoardFault_w N) (fun {R} => LI (noIt) 1 62 sl_impl_BoardFault_w (R := R)) J_impl_BoardFault_w 1 62 0 [1, 22, 23, 24] [2] (body Go.Proofs.Try.f27 0) f [(Option.some (Go.Eng.AV.sc (Go.Eng.SV.ptr 1 0 0))), (Option.some (Go.Eng.AV.sc (Go.Eng.SV.slc 0 Option.none b3))), (Option.some (Go.Eng.AV.sc (Go.Eng.SV.int Go.IntKind.i64 n2))), (Option.some (Go.Eng.AV.sc (Go.Eng.SV.int Go.IntKind.i64 n3)))] [(Option.some (Go.Eng.HE.mk Bool.false (Go.Eng.HB.rows (Go.Sa.B.iDevice l1)))), (Option.some (Go.Eng.HE.mk Bool.false (Go.Eng.HB.exp [(Go.Eng.SV.int Go.IntKind.i64 n4), (Go.Eng.SV.int Go.IntKind.i64 n5), (Go.Eng.SV.slc 0 Option.none b4)])))] KL = l_impl_BoardFault_w_0 N b3 n2 l1 n4 n5 b4 (KL Go.Eng.Ex.ret [(Option.some (Go.Eng.AV.sc (Go.Eng.SV.int Go.IntKind.i64 (1 : Int))))] [(Option.some (Go.Eng.HE.mk Bool.false (Go.Eng.HB.rows (Go.Sa.B.iDevice l1))))]) (KL Go.Eng.Ex.normal [Option.none] [(Option.some (Go.Eng.HE.mk Bool.false (Go.Eng.HB.rows (Go.Sa.B.iDevice l1))))]) f n3 := by
  intro f
  induction f with
  | zero => intros; rfl
  | succ f ih =>
    intro n3
    rw [iterK_succ, se_impl_BoardFault_w_0]
    exact (congrArg (fun z0 => s_impl_BoardFault_w_0 N b3 n2 l1 n4 n5 b4 n3 z0 (KL Go.Eng.Ex.ret [(Option.some (Go.Eng.AV.sc (Go.Eng.SV.int Go.IntKind.i64 (1 : Int))))] [(Option.some (Go.Eng.HE.mk Bool.false (Go.Eng.HB.rows (Go.Sa.B.iDevice l1))))]) (KL Go.Eng.Ex.normal [Option.none] [(Option.some (Go.Eng.HE.mk Bool.false (Go.Eng.HB.rows (Go.Sa.B.iDevice l1))))])) (funext fun n3 => ih n3))
def i_impl_BoardFault_w_0 (N : Nat) {R : Type} (vs : List (Option AV)) (H : Hp E) (KL : Ex → List (Option AV) → Hp E → Option R) : Option R :=
  match vs, H with
  | [(Option.some (Go.Eng.AV.sc (Go.Eng.SV.ptr 1 0 0))), (Option.some (Go.Eng.AV.sc (Go.Eng.SV.slc 0 Option.none b3))), (Option.some (Go.Eng.AV.sc (Go.Eng.SV.int Go.IntKind.i64 n2))), (Option.some (Go.Eng.AV.sc (Go.Eng.SV.int Go.IntKind.i64 n3)))], [(Option.some (Go.Eng.HE.mk Bool.false (Go.Eng.HB.rows (Go.Sa.B.iDevice l1)))), (Option.some (Go.Eng.HE.mk Bool.false (Go.Eng.HB.exp [(Go.Eng.SV.int Go.IntKind.i64 n4), (Go.Eng.SV.int Go.IntKind.i64 n5), (Go.Eng.SV.slc 0 Option.none b4)])))] => c_impl_BoardFault_w_0 N b3 n2 l1 n4 n5 b4 n3 (KL Go.Eng.Ex.ret [(Option.some (Go.Eng.AV.sc (Go.Eng.SV.int Go.IntKind.i64 (1 : Int))))] [(Option.some (Go.Eng.HE.mk Bool.false (Go.Eng.HB.rows (Go.Sa.B.iDevice l1))))]) (KL Go.Eng.Ex.normal [Option.none] [(Option.some (Go.Eng.HE.mk Bool.false (Go.Eng.HB.rows (Go.Sa.B.iDevice l1))))])
  | _, _ => none
noncomputable def IT_impl_BoardFault_w_0 (N : Nat) : Its E := addIt 0 (i_impl_BoardFault_w_0 N) (noIt)
theorem IT_impl_BoardFault_w_0_ok (N : Nat) : ItOk (IT_impl_BoardFault_w_0 N) 1 62 sl_impl_BoardFault_w (lsB Go.Proofs.Try.f27 [0]) :=
  addItB_ok (inner := []) ok (O_impl_BoardFault_w_ok N) (jn_ok _ _) (noIt_ok) rfl (by kernel_rfl) rfl fun vs H KL r h => by
    unfold i_impl_BoardFault_w_0 at h
    split at h
    · exact ⟨_, (le_impl_BoardFault_w_0 N _ _ _ _ _ _ KL N _).trans h⟩
    · cases h
def g_impl_BoardFault_w (N : Nat) {R : Type} (n : Int) (n1 : Int) (b : Bool) (l : List Go.Sa.Device) (k : Int → Option R) : Option R :=
  (oK (g_impl_yin N n (2 : Int) (256 : Int) fun b1 =>
    (cond (!b1)
    (some Bool.true)
    (g_impl_yin N n1 (1 : Int) (8 : Int) fun b2 =>
      (cond (!b2)
      (some Bool.true)
      (some (decide (((((List.length l) : Nat) : Int) > (16 : Int))))))))) fun j =>
  (cond j
  (k (1 : Int))
  (c_impl_BoardFault_w_0 N b (((List.length l) : Nat) : Int) l n n1 b (0 : Int) (
    (k (1 : Int))) (
    (k (0 : Int))))))
theorem e_impl_BoardFault_w (N : Nat) {R : Type} (n : Int) (n1 : Int) (b : Bool) (l : List Go.Sa.Device) (K : AV → Hp E → Option R) :
    runFnI (E := E) (O_impl_BoardFault_w N) (IT_impl_BoardFault_w_0 N) sl_impl_BoardFault_w J_impl_BoardFault_w Go.Proofs.Try.f27 [(Go.Eng.AV.agg [(Go.Eng.SV.int Go.IntKind.i64 n), (Go.Eng.SV.int Go.IntKind.i64 n1), (Go.Eng.SV.slc 0 Option.none b)])] [(Option.some (Go.Eng.HE.mk Bool.false (Go.Eng.HB.rows (Go.Sa.B.iDevice l))))] K =
      g_impl_BoardFault_w N n n1 b l (fun n6 => K (Go.Eng.AV.sc (Go.Eng.SV.int Go.IntKind.i64 n6)) [(Option.some (Go.Eng.HE.mk Bool.false (Go.Eng.HB.rows (Go.Sa.B.iDevice l))))]) := by kernel_rfl
def o_impl_BoardFault_w (N : Nat) {R : Type} (args : List AV) (H : Hp E) (K : AV → Hp E → Option R) : Option R :=
  match args, H with
  | [(Go.Eng.AV.agg [(Go.Eng.SV.int Go.IntKind.i64 n), (Go.Eng.SV.int Go.IntKind.i64 n1), (Go.Eng.SV.slc 0 Option.none b)])], [(Option.some (Go.Eng.HE.mk Bool.false (Go.Eng.HB.rows (Go.Sa.B.iDevice l))))] => g_impl_BoardFault_w N n n1 b l (fun n6 => K (Go.Eng.AV.sc (Go.Eng.SV.int Go.IntKind.i64 n6)) [(Option.some (Go.Eng.HE.mk Bool.false (Go.Eng.HB.rows (Go.Sa.B.iDevice l))))])
  | _, _ => none
theorem o_impl_BoardFault_w_ok (N : Nat) : FnOk E 27 (o_impl_BoardFault_w N) := by
  intro R args H K r h
  unfold o_impl_BoardFault_w at h
  dsimp only at h
  split at h
  · exact fnB_ok (ids := [0]) (top := [0]) ok (O_impl_BoardFault_w_ok N) (jn_ok _ _) Go.Proofs.Try.func27 (by kernel_rfl) (IT := IT_impl_BoardFault_w_0 N) (sl := sl_impl_BoardFault_w) (J := J_impl_BoardFault_w) (K := K) (H := [(Option.some (Go.Eng.HE.mk Bool.false (Go.Eng.HB.rows (Go.Sa.B.iDevice _))))]) (IT_impl_BoardFault_w_0_ok N) (by kernel_rfl) rfl ((e_impl_BoardFault_w N _ _ _ _ K).trans h)
  · cases h
/-! ### loop.example/g00038/laws.eqDevice -/
abbrev sl_laws_eqDevice : SlotT := []
abbrev J_laws_eqDevice : JT := jn [] []
noncomputable def O_laws_eqDevice (N : Nat) : Orc E := noFn
theorem O_laws_eqDevice_ok (N : Nat) : OrcOk (O_laws_eqDevice N) := noFn_ok
def g_laws_eqDevice (N : Nat) {R : Type} (n : Int) (n1 : Int) (n2 : Int) (n3 : Int) (n4 : Int) (n5 : Int) (k : Bool → Option R) : Option R :=
  (cond (n != n3)
  (k Bool.false)
  (cond (n1 != n4)
    (k Bool.false)
    (cond (n2 != n5)
      (k Bool.false)
      (k Bool.true))))
theorem e_laws_eqDevice (N : Nat) {R : Type} (n : Int) (n1 : Int) (n2 : Int) (n3 : Int) (n4 : Int) (n5 : Int) (K : AV → Hp E → Option R) :
    runFnI (E := E) (O_laws_eqDevice N) (noIt) sl_laws_eqDevice J_laws_eqDevice Go.Proofs.Try.f135 [(Go.Eng.AV.agg [(Go.Eng.SV.int Go.IntKind.i64 n), (Go.Eng.SV.int Go.IntKind.i64 n1), (Go.Eng.SV.int Go.IntKind.i64 n2)]), (Go.Eng.AV.agg [(Go.Eng.SV.int Go.IntKind.i64 n3), (Go.Eng.SV.int Go.IntKind.i64 n4), (Go.Eng.SV.int Go.IntKind.i64 n5)])] [] K =
      g_laws_eqDevice N n n1 n2 n3 n4 n5 (fun b => K (Go.Eng.AV.sc (Go.Eng.SV.bool b)) []) := by kernel_rfl
def o_laws_eqDevice (N : Nat) {R : Type} (args : List AV) (H : Hp E) (K : AV → Hp E → Option R) : Option R :=
  match args, H with
  | [(Go.Eng.AV.agg [(Go.Eng.SV.int Go.IntKind.i64 n), (Go.Eng.SV.int Go.IntKind.i64 n1), (Go.Eng.SV.int Go.IntKind.i64 n2)]), (Go.Eng.AV.agg [(Go.Eng.SV.int Go.IntKind.i64 n3), (Go.Eng.SV.int Go.IntKind.i64 n4), (Go.Eng.SV.int Go.IntKind.i64 n5)])], [] => g_laws_eqDevice N n n1 n2 n3 n4 n5 (fun b => K (Go.Eng.AV.sc (Go.Eng.SV.bool b)) [])
  | _, _ => none
theorem o_laws_eqDevice_ok (N : Nat) : FnOk E 135 (o_laws_eqDevice N) := by
  intro R args H K r h
  unfold o_laws_eqDevice at h
  dsimp only at h
  split at h
  · exact fnB_ok (ids := []) (top := []) ok (O_laws_eqDevice_ok N) (jn_ok _ _) Go.Proofs.Try.func135 (by kernel_rfl) (IT := noIt) (sl := sl_laws_eqDevice) (J := J_laws_eqDevice) (K := K) (H := []) (noIt_ok) (by kernel_rfl) rfl ((e_laws_eqDevice N _ _ _ _ _ _ K).trans h)
  · cases h
/-! ### loop.example/g00038/laws.eqDeviceS -/
abbrev sl_laws_eqDeviceS_rr : SlotT := [(0, ([0, 1, 5], [4]))]
abbrev J_laws_eqDeviceS_rr : JT := jn [] []
noncomputable def O_laws_eqDeviceS_rr (N : Nat) : Orc E := addFn 135 (o_laws_eqDevice N) (noFn)
theorem O_laws_eqDeviceS_rr_ok (N : Nat) : OrcOk (O_laws_eqDeviceS_rr N) := addFn_ok (o_laws_eqDevice_ok N) (noFn_ok)
def s_laws_eqDeviceS_rr_0 (N : Nat) {R : Type} (b2 : Bool) (b3 : Bool) (l2 : List Go.Sa.Device) (l3 : List Go.Sa.Device) (n : Int) (ag : Int → Option R)  (kR : Option R) (kN : Option R) : Option R :=
  (cond (decide ((n < (((List.length l2) : Nat) : Int))))
  (cond ((decide (((0 : Int) ≤ n))) && (decide ((n < (((List.length l2) : Nat) : Int)))))
    (elemK l2 (Int.toNat n) fun x =>
      (cond ((decide (((0 : Int) ≤ n))) && (decide ((n < (((List.length l3) : Nat) : Int)))))
      (elemK l3 (Int.toNat n) fun x1 =>
        (g_laws_eqDevice N (Go.Sa.Device.fKind x) (Go.Sa.Device.fPort x) (Go.Sa.Device.fLine x) (Go.Sa.Device.fKind x1) (Go.Sa.Device.fPort x1) (Go.Sa.Device.fLine x1) fun b4 =>
        (cond (!b4)
        kR
        (ag (Go.IntKind.wrap Go.IntKind.i64 (n + (1 : Int)))))))
      none))
    none)
  kN)
def l_laws_eqDeviceS_rr_0 (N : Nat) {R : Type} (b2 : Bool) (b3 : Bool) (l2 : List Go.Sa.Device) (l3 : List Go.Sa.Device) (kR : Option R) (kN : Option R) : Nat → Int → Option R
  | 0, _ => none
  | f + 1, n => s_laws_eqDeviceS_rr_0 N b2 b3 l2 l3 n (fun n => l_laws_eqDeviceS_rr_0 N b2 b3 l2 l3 kR kN f n)  kR kN
def c_laws_eqDeviceS_rr_0 (N : Nat) {R : Type} (b2 : Bool) (b3 : Bool) (l2 : List Go.Sa.Device) (l3 : List Go.Sa.Device) (n : Int) (kR : Option R) (kN : Option R) : Option R := l_laws_eqDeviceS_rr_0 N b2 b3 l2 l3 kR kN N n
theorem se_laws_eqDeviceS_rr_0 (N : Nat) {R : Type} (b2 : Bool) (b3 : Bool) (l2 : List Go.Sa.Device) (l3 : List Go.Sa.Device) (n : Int) (AG : List (Option AV) → Hp E → Option R) (KL : Ex → List (Option AV) → Hp E → Option R) :
    iterStep (E := E) (O_laws_eqDeviceS_rr N) (fun {R} => LI (noIt) 2 27 sl_laws_eqDeviceS_rr (R := R)) J_laws_eqDeviceS_rr 2 27 0 [0, 1, 5] [4] (body Go.Proofs.Try.f79 0) AG KL [(Option.some (Go.Eng.AV.sc (Go.Eng.SV.slc 0 Option.none b2))), (Option.some (Go.Eng.AV.sc (Go.Eng.SV.slc 1 Option.none b3))), (Option.some (Go.Eng.AV.sc (Go.Eng.SV.int Go.IntKind.i64 n)))] [(Option.some (Go.Eng.HE.mk Bool.true (Go.Eng.HB.rows (Go.Sa.B.iDevice l2)))), (Option.some (Go.Eng.HE.mk Bool.true (Go.Eng.HB.rows (Go.Sa.B.iDevice l3))))] =
      s_laws_eqDeviceS_rr_0 N b2 b3 l2 l3 n (fun n => AG [(Option.some (Go.Eng.AV.sc (Go.Eng.SV.slc 0 Option.none b2))), (Option.some (Go.Eng.AV.sc (Go.Eng.SV.slc 1 Option.none b3))), (Option.some (Go.Eng.AV.sc (Go.Eng.SV.int Go.IntKind.i64 n)))] [(Option.some (Go.Eng.HE.mk Bool.true (Go.Eng.HB.rows (Go.Sa.B.iDevice l2)))), (Option.some (Go.Eng.HE.mk Bool.true (Go.Eng.HB.rows (Go.Sa.B.iDevice l3))))])  (KL Go.Eng.Ex.ret [(Option.some (Go.Eng.AV.sc (Go.Eng.SV.bool Bool.false)))] [(Option.some (Go.Eng.HE.mk Bool.true (Go.Eng.HB.rows (Go.Sa.B.iDevice l2)))), (Option.some (Go.Eng.HE.mk Bool.true (Go.Eng.HB.rows (Go.Sa.B.iDevice l3))))]) (KL Go.Eng.Ex.normal [Option.none] [(Option.some (Go.Eng.HE.mk Bool.true (Go.Eng.HB.rows (Go.Sa.B.iDevice l2)))), (Option.some (Go.Eng.HE.mk Bool.true (Go.Eng.HB.rows (Go.Sa.B.iDevice l3))))]) := by kernel_rfl
theorem le_laws_eqDeviceS_rr_0 (N : Nat) {R : Type} (b2 : Bool) (b3 : Bool) (l2 : List Go.Sa.Device) (l3 : List Go.Sa.Device) (KL : Ex → List (Option AV) → Hp E → Option R) : ∀ (f : Nat), ∀ (n : Int), iterK (E := E) (O_laws_eqDeviceS_rr N) (fun {R} => LI (noIt) 2 27 sl_laws_eqDeviceS_rr (R := R)) J_laws_eqDeviceS_rr 2 27 0 [0, 1, 5] [4] (body Go.Proofs.Try.f79 0) f [(Option.some (Go.Eng.AV.sc (Go.Eng.SV.slc 0 Option.none b2))), (Option.some (Go.Eng.AV.sc (Go.Eng.SV.slc 1 Option.none b3))), (Option.some (Go.Eng.AV.sc (Go.Eng.SV.int Go.IntKind.i64 n)))] [(Option.some (Go.Eng.HE.mk Bool.true (Go.Eng.HB.rows (Go.Sa.B.iDevice l2)))), (Option.some (Go.Eng.HE.mk Bool.true (Go.Eng.HB.rows (Go.Sa.B.iDevice l3))))] KL = l_laws_eqDeviceS_rr_0 N b2 b3 l2 l3 (KL Go.Eng.Ex.ret [(Option.some (Go.Eng.AV.sc (Go.Eng.SV.bool Bool.false)))] [(Option.some (Go.Eng.HE.mk Bool.true (Go.Eng.HB.rows (Go.Sa.B.iDevice l2)))), (Option.some (Go.Eng.HE.mk Bool.true (Go.Eng.HB.rows (Go.Sa.B.iDevice l3))))]) (KL Go.Eng.Ex.normal [Option.none] [(Option.some (Go.Eng.HE.mk Bool.true (Go.Eng.HB.rows (Go.Sa.B.iDevice l2)))), (Option.some (Go.Eng.HE.mk Bool.true (Go.Eng.HB.rows (Go.Sa.B.iDevice l3))))]) f n := by
  intro f
  induction f with
  | zero => intros; rfl
  | succ f ih =>
    intro n
    rw [iterK_succ, se_laws_eqDeviceS_rr_0]
    exact (congrArg (fun z0 => s_laws_eqDeviceS_rr_0 N b2 b3 l2 l3 n z0 (KL Go.Eng.Ex.ret [(Option.some (Go.Eng.AV.sc (Go.Eng.SV.bool Bool.false)))] [(Option.some (Go.Eng.HE.mk Bool.true (Go.Eng.HB.rows (Go.Sa.B.iDevice l2)))), (Option.some (Go.Eng.HE.mk Bool.true (Go.Eng.HB.rows (Go.Sa.B.iDevice l3))))]) (KL Go.Eng.Ex.normal [Option.none] [(Option.some (Go.Eng.HE.mk Bool.true (Go.Eng.HB.rows (Go.Sa.B.iDevice l2)))), (Option.some (Go.Eng.HE.mk Bool.true (Go.Eng.HB.rows (Go.Sa.B.iDevice l3))))])) (funext fun n => ih n))
def i_laws_eqDeviceS_rr_0 (N : Nat) {R : Type} (vs : List (Option AV)) (H : Hp E) (KL : Ex → List (Option AV) → Hp E → Option R) : Option R :=
  match vs, H with
  | [(Option.some (Go.Eng.AV.sc (Go.Eng.SV.slc 0 Option.none b2))), (Option.some (Go.Eng.AV.sc (Go.Eng.SV.slc 1 Option.none b3))), (Option.some (Go.Eng.AV.sc (Go.Eng.SV.int Go.IntKind.i64 n)))], [(Option.some (Go.Eng.HE.mk Bool.true (Go.Eng.HB.rows (Go.Sa.B.iDevice l2)))), (Option.some (Go.Eng.HE.mk Bool.true (Go.Eng.HB.rows (Go.Sa.B.iDevice l3))))] => c_laws_eqDeviceS_rr_0 N b2 b3 l2 l3 n (KL Go.Eng.Ex.ret [(Option.some (Go.Eng.AV.sc (Go.Eng.SV.bool Bool.false)))] [(Option.some (Go.Eng.HE.mk Bool.true (Go.Eng.HB.rows (Go.Sa.B.iDevice l2)))), (Option.some (Go.Eng.HE.mk Bool.true (Go.Eng.HB.rows (Go.Sa.B.iDevice l3))))]) (KL Go.Eng.Ex.normal [Option.none] [(Option.some (Go.Eng.HE.mk Bool.true (Go.Eng.HB.rows (Go.Sa.B.iDevice l2)))), (Option.some (Go.Eng.HE.mk Bool.true (Go.Eng.HB.rows (Go.Sa.B.iDevice l3))))])
  | _, _ => none
noncomputable def IT_laws_eqDeviceS_rr_0 (N : Nat) : Its E := addIt 0 (i_laws_eqDeviceS_rr_0 N) (noIt)
theorem IT_laws_eqDeviceS_rr_0_ok (N : Nat) : ItOk (IT_laws_eqDeviceS_rr_0 N) 2 27 sl_laws_eqDeviceS_rr (lsB Go.Proofs.Try.f79 [0]) :=
  addItB_ok (inner := []) ok (O_laws_eqDeviceS_rr_ok N) (jn_ok _ _) (noIt_ok) rfl (by kernel_rfl) rfl fun vs H KL r h => by
    unfold i_laws_eqDeviceS_rr_0 at h
    split at h
    · exact ⟨_, (le_laws_eqDeviceS_rr_0 N _ _ _ _ KL N _).trans h⟩
    · cases h
def g_laws_eqDeviceS_rr (N : Nat) {R : Type} (b : Bool) (b1 : Bool) (l : List Go.Sa.Device) (l1 : List Go.Sa.Device) (k : Bool → Option R) : Option R :=
  (cond ((((List.length l) : Nat) : Int) != (((List.length l1) : Nat) : Int))
  (k Bool.false)
  (c_laws_eqDeviceS_rr_0 N b b1 l l1 (0 : Int) (
    (k Bool.false)) (
    (k Bool.true))))
theorem e_laws_eqDeviceS_rr (N : Nat) {R : Type} (b : Bool) (b1 : Bool) (l : List Go.Sa.Device) (l1 : List Go.Sa.Device) (K : AV → Hp E → Option R) :
    runFnI (E := E) (O_laws_eqDeviceS_rr N) (IT_laws_eqDeviceS_rr_0 N) sl_laws_eqDeviceS_rr J_laws_eqDeviceS_rr Go.Proofs.Try.f79 [(Go.Eng.AV.sc (Go.Eng.SV.slc 0 Option.none b)), (Go.Eng.AV.sc (Go.Eng.SV.slc 1 Option.none b1))] [(Option.some (Go.Eng.HE.mk Bool.true (Go.Eng.HB.rows (Go.Sa.B.iDevice l)))), (Option.some (Go.Eng.HE.mk Bool.true (Go.Eng.HB.rows (Go.Sa.B.iDevice l1))))] K =
      g_laws_eqDeviceS_rr N b b1 l l1 (fun b5 => K (Go.Eng.AV.sc (Go.Eng.SV.bool b5)) [(Option.some (Go.Eng.HE.mk Bool.true (Go.Eng.HB.rows (Go.Sa.B.iDevice l)))), (Option.some (Go.Eng.HE.mk Bool.true (Go.Eng.HB.rows (Go.Sa.B.iDevice l1))))]) := by kernel_rfl
def o_laws_eqDeviceS_rr (N : Nat) {R : Type} (args : List AV) (H : Hp E) (K : AV → Hp E → Option R) : Option R :=
  match args, H with
  | [(Go.Eng.AV.sc (Go.Eng.SV.slc 0 Option.none b)), (Go.Eng.AV.sc (Go.Eng.SV.slc 1 Option.none b1))], [(Option.some (Go.Eng.HE.mk Bool.true (Go.Eng.HB.rows (Go.Sa.B.iDevice l)))), (Option.some (Go.Eng.HE.mk Bool.true (Go.Eng.HB.rows (Go.Sa.B.iDevice l1))))] => g_laws_eqDeviceS_rr N b b1 l l1 (fun b5 => K (Go.Eng.AV.sc (Go.Eng.SV.bool b5)) [(Option.some (Go.Eng.HE.mk Bool.true (Go.Eng.HB.rows (Go.Sa.B.iDevice l)))), (Option.some (Go.Eng.HE.mk Bool.true (Go.Eng.HB.rows (Go.Sa.B.iDevice l1))))])
  | _, _ => none
theorem o_laws_eqDeviceS_rr_ok (N : Nat) : FnOk E 79 (o_laws_eqDeviceS_rr N) := by
  intro R args H K r h
  unfold o_laws_eqDeviceS_rr at h
  dsimp only at h
  split at h
  · exact fnB_ok (ids := [0]) (top := [0]) ok (O_laws_eqDeviceS_rr_ok N) (jn_ok _ _) Go.Proofs.Try.func79 (by kernel_rfl) (IT := IT_laws_eqDeviceS_rr_0 N) (sl := sl_laws_eqDeviceS_rr) (J := J_laws_eqDeviceS_rr) (K := K) (H := [(Option.some (Go.Eng.HE.mk Bool.true (Go.Eng.HB.rows (Go.Sa.B.iDevice _)))), (Option.some (Go.Eng.HE.mk Bool.true (Go.Eng.HB.rows (Go.Sa.B.iDevice _))))]) (IT_laws_eqDeviceS_rr_0_ok N) (by kernel_rfl) rfl ((e_laws_eqDeviceS_rr N _ _ _ _ K).trans h)
  · cases h
/-! ### loop.example/g00038/laws.eqBoard -/
abbrev sl_laws_eqBoard_rr : SlotT := []
abbrev J_laws_eqBoard_rr : JT := jn [] []
noncomputable def O_laws_eqBoard_rr (N : Nat) : Orc E := addFn 79 (o_laws_eqDeviceS_rr N) (noFn)
theorem O_laws_eqBoard_rr_ok (N : Nat) : OrcOk (O_laws_eqBoard_rr N) := addFn_ok (o_laws_eqDeviceS_rr_ok N) (noFn_ok)
def g_laws_eqBoard_rr (N : Nat) {R : Type} (n : Int) (n1 : Int) (b : Bool) (n2 : Int) (n3 : Int) (b1 : Bool) (l : List Go.Sa.Device) (l1 : List Go.Sa.Device) (k : Bool → Option R) : Option R :=
  (cond (n != n2)
  (k Bool.false)
  (cond (n1 != n3)
    (k Bool.false)
    (g_laws_eqDeviceS_rr N b b1 l l1 fun b2 =>
      (cond (!b2)
      (k Bool.false)
      (k Bool.true)))))
theorem e_laws_eqBoard_rr (N : Nat) {R : Type} (n : Int) (n1 : Int) (b : Bool) (n2 : Int) (n3 : Int) (b1 : Bool) (l : List Go.Sa.Device) (l1 : List Go.Sa.Device) (K : AV → Hp E → Option R) :
    runFnI (E := E) (O_laws_eqBoard_rr N) (noIt) sl_laws_eqBoard_rr J_laws_eqBoard_rr Go.Proofs.Try.f28 [(Go.Eng.AV.agg [(Go.Eng.SV.int Go.IntKind.i64 n), (Go.Eng.SV.int Go.IntKind.i64 n1), (Go.Eng.SV.slc 0 Option.none b)]), (Go.Eng.AV.agg [(Go.Eng.SV.int Go.IntKind.i64 n2), (Go.Eng.SV.int Go.IntKind.i64 n3), (Go.Eng.SV.slc 1 Option.none b1)])] [(Option.some (Go.Eng.HE.mk Bool.true (Go.Eng.HB.rows (Go.Sa.B.iDevice l)))), (Option.some (Go.Eng.HE.mk Bool.true (Go.Eng.HB.rows (Go.Sa.B.iDevice l1))))] K =
      g_laws_eqBoard_rr N n n1 b n2 n3 b1 l l1 (fun b3 => K (Go.Eng.AV.sc (Go.Eng.SV.bool b3)) [(Option.some (Go.Eng.HE.mk Bool.true (Go.Eng.HB.rows (Go.Sa.B.iDevice l)))), (Option.some (Go.Eng.HE.mk Bool.true (Go.Eng.HB.rows (Go.Sa.B.iDevice l1))))]) := by kernel_rfl
def o_laws_eqBoard_rr (N : Nat) {R : Type} (args : List AV) (H : Hp E) (K : AV → Hp E → Option R) : Option R :=
  match args, H with
  | [(Go.Eng.AV.agg [(Go.Eng.SV.int Go.IntKind.i64 n), (Go.Eng.SV.int Go.IntKind.i64 n1), (Go.Eng.SV.slc 0 Option.none b)]), (Go.Eng.AV.agg [(Go.Eng.SV.int Go.IntKind.i64 n2), (Go.Eng.SV.int Go.IntKind.i64 n3), (Go.Eng.SV.slc 1 Option.none b1)])], [(Option.some (Go.Eng.HE.mk Bool.true (Go.Eng.HB.rows (Go.Sa.B.iDevice l)))), (Option.some (Go.Eng.HE.mk Bool.true (Go.Eng.HB.rows (Go.Sa.B.iDevice l1))))] => g_laws_eqBoard_rr N n n1 b n2 n3 b1 l l1 (fun b3 => K (Go.Eng.AV.sc (Go.Eng.SV.bool b3)) [(Option.some (Go.Eng.HE.mk Bool.true (Go.Eng.HB.rows (Go.Sa.B.iDevice l)))), (Option.some (Go.Eng.HE.mk Bool.true (Go.Eng.HB.rows (Go.Sa.B.iDevice l1))))])
  | _, _ => none
theorem o_laws_eqBoard_rr_ok (N : Nat) : FnOk E 28 (o_laws_eqBoard_rr N) := by
  intro R args H K r h
  unfold o_laws_eqBoard_rr at h
  dsimp only at h
  split at h
  · exact fnB_ok (ids := []) (top := []) ok (O_laws_eqBoard_rr_ok N) (jn_ok _ _) Go.Proofs.Try.func28 (by kernel_rfl) (IT := noIt) (sl := sl_laws_eqBoard_rr) (J := J_laws_eqBoard_rr) (K := K) (H := [(Option.some (Go.Eng.HE.mk Bool.true (Go.Eng.HB.rows (Go.Sa.B.iDevice _)))), (Option.some (Go.Eng.HE.mk Bool.true (Go.Eng.HB.rows (Go.Sa.B.iDevice _))))]) (noIt_ok) (by kernel_rfl) rfl ((e_laws_eqBoard_rr N _ _ _ _ _ _ _ _ K).trans h)
  · cases h
/-! ### loop.example/g00038/spec.l01Mod -/
abbrev sl_spec_l01Mod : SlotT := []
abbrev J_spec_l01Mod : JT := jn [] [(10, [(5, .i .i64)])]
noncomputable def O_spec_l01Mod (N : Nat) : Orc E := noFn
theorem O_spec_l01Mod_ok (N : Nat) : OrcOk (O_spec_l01Mod N) := noFn_ok
def g_spec_l01Mod (N : Nat) {R : Type} (n : Int) (n1 : Int) (k : Int → Option R) : Option R :=
  (cond (n1 == (0 : Int))
  none
  (oK (cond (decide (((Int.tmod n n1) < (0 : Int))))
      (some (Go.IntKind.wrap Go.IntKind.i64 ((Int.tmod n n1) + n1)))
      (some (Int.tmod n n1))) fun j =>
    (k j)))
theorem e_spec_l01Mod (N : Nat) {R : Type} (n : Int) (n1 : Int) (K : AV → Hp E → Option R) :
    runFnI (E := E) (O_spec_l01Mod N) (noIt) sl_spec_l01Mod J_spec_l01Mod Go.Proofs.Try.f139 [(Go.Eng.AV.sc (Go.Eng.SV.int Go.IntKind.i64 n)), (Go.Eng.AV.sc (Go.Eng.SV.int Go.IntKind.i64 n1))] [] K =
      g_spec_l01Mod N n n1 (fun n2 => K (Go.Eng.AV.sc (Go.Eng.SV.int Go.IntKind.i64 n2)) []) := by kernel_rfl
def o_spec_l01Mod (N : Nat) {R : Type} (args : List AV) (H : Hp E) (K : AV → Hp E → Option R) : Option R :=
  match args, H with
  | [(Go.Eng.AV.sc (Go.Eng.SV.int Go.IntKind.i64 n)), (Go.Eng.AV.sc (Go.Eng.SV.int Go.IntKind.i64 n1))], [] => g_spec_l01Mod N n n1 (fun n2 => K (Go.Eng.AV.sc (Go.Eng.SV.int Go.IntKind.i64 n2)) [])
  | _, _ => none
theorem o_spec_l01Mod_ok (N : Nat) : FnOk E 139 (o_spec_l01Mod N) := by
  intro R args H K r h
  unfold o_spec_l01Mod at h
  dsimp only at h
  split at h
  · exact fnB_ok (ids := []) (top := []) ok (O_spec_l01Mod_ok N) (jn_ok _ _) Go.Proofs.Try.func139 (by kernel_rfl) (IT := noIt) (sl := sl_spec_l01Mod) (J := J_spec_l01Mod) (K := K) (H := []) (noIt_ok) (by kernel_rfl) rfl ((e_spec_l01Mod N _ _ K).trans h)
  · cases h
/-! ### loop.example/g00038/spec.Word -/
abbrev sl_spec_Word : SlotT := []
abbrev J_spec_Word : JT := jn [] []
noncomputable def O_spec_Word (N : Nat) : Orc E := addFn 139 (o_spec_l01Mod N) (noFn)
theorem O_spec_Word_ok (N : Nat) : OrcOk (O_spec_Word N) := addFn_ok (o_spec_l01Mod_ok N) (noFn_ok)
def g_spec_Word (N : Nat) {R : Type} (n : Int) (k : Int → Option R) : Option R :=
  (g_spec_l01Mod N n (4294967296 : Int) fun n1 =>
  (k n1))
theorem e_spec_Word (N : Nat) {R : Type} (n : Int) (K : AV → Hp E → Option R) :
    runFnI (E := E) (O_spec_Word N) (noIt) sl_spec_Word J_spec_Word Go.Proofs.Try.f138 [(Go.Eng.AV.sc (Go.Eng.SV.int Go.IntKind.i64 n))] [] K =
      g_spec_Word N n (fun n2 => K (Go.Eng.AV.sc (Go.Eng.SV.int Go.IntKind.i64 n2)) []) := by kernel_rfl
def o_spec_Word (N : Nat) {R : Type} (args : List AV) (H : Hp E) (K : AV → Hp E → Option R) : Option R :=
  match args, H with
  | [(Go.Eng.AV.sc (Go.Eng.SV.int Go.IntKind.i64 n))], [] => g_spec_Word N n (fun n2 => K (Go.Eng.AV.sc (Go.Eng.SV.int Go.IntKind.i64 n2)) [])
  | _, _ => none
theorem o_spec_Word_ok (N : Nat) : FnOk E 138 (o_spec_Word N) := by
  intro R args H K r h
  unfold o_spec_Word at h
  dsimp only at h
  split at h
  · exact fnB_ok (ids := []) (top := []) ok (O_spec_Word_ok N) (jn_ok _ _) Go.Proofs.Try.func138 (by kernel_rfl) (IT := noIt) (sl := sl_spec_Word) (J := J_spec_Word) (K := K) (H := []) (noIt_ok) (by kernel_rfl) rfl ((e_spec_Word N _ K).trans h)
  · cases h
/-! ### loop.example/g00038/spec.PutWord -/
abbrev sl_spec_PutWord : SlotT := []
abbrev J_spec_PutWord : JT := jn [] []
noncomputable def O_spec_PutWord (N : Nat) : Orc E := addFn 138 (o_spec_Word N) (noFn)
theorem O_spec_PutWord_ok (N : Nat) : OrcOk (O_spec_PutWord N) := addFn_ok (o_spec_Word_ok N) (noFn_ok)
def g_spec_PutWord (N : Nat) {R : Type} (n : Int) (k : ByteArray → Option R) : Option R :=
  (g_spec_Word N n fun n1 =>
  (k (Go.Eng.toBytes (Go.Eng.seg [(Go.IntKind.wrap Go.IntKind.u8 n1), (Go.IntKind.wrap Go.IntKind.u8 (Int.fdiv n1 (256 : Int))), (Go.IntKind.wrap Go.IntKind.u8 (Int.fdiv n1 (65536 : Int))), (Go.IntKind.wrap Go.IntKind.u8 (Int.fdiv n1 (16777216 : Int)))] 0 (List.length [(Go.IntKind.wrap Go.IntKind.u8 n1), (Go.IntKind.wrap Go.IntKind.u8 (Int.fdiv n1 (256 : Int))), (Go.IntKind.wrap Go.IntKind.u8 (Int.fdiv n1 (65536 : Int))), (Go.IntKind.wrap Go.IntKind.u8 (Int.fdiv n1 (16777216 : Int)))])))))
theorem e_spec_PutWord (N : Nat) {R : Type} (n : Int) (K : AV → Hp E → Option R) :
    runFnI (E := E) (O_spec_PutWord N) (noIt) sl_spec_PutWord J_spec_PutWord Go.Proofs.Try.f87 [(Go.Eng.AV.sc (Go.Eng.SV.int Go.IntKind.i64 n))] [] K =
      g_spec_PutWord N n (fun s => K (Go.Eng.AV.sc (Go.Eng.SV.str s)) []) := by kernel_rfl
def o_spec_PutWord (N : Nat) {R : Type} (args : List AV) (H : Hp E) (K : AV → Hp E → Option R) : Option R :=
  match args, H with
  | [(Go.Eng.AV.sc (Go.Eng.SV.int Go.IntKind.i64 n))], [] => g_spec_PutWord N n (fun s => K (Go.Eng.AV.sc (Go.Eng.SV.str s)) [])
  | _, _ => none
theorem o_spec_PutWord_ok (N : Nat) : FnOk E 87 (o_spec_PutWord N) := by
  intro R args H K r h
  unfold o_spec_PutWord at h
  dsimp only at h
  split at h
  · exact fnB_ok (ids := []) (top := []) ok (O_spec_PutWord_ok N) (jn_ok _ _) Go.Proofs.Try.func87 (by kernel_rfl) (IT := noIt) (sl := sl_spec_PutWord) (J := J_spec_PutWord) (K := K) (H := []) (noIt_ok) (by kernel_rfl) rfl ((e_spec_PutWord N _ K).trans h)
  · cases h
/-! ### loop.example/g00038/impl.PutWord -/
abbrev sl_impl_PutWord : SlotT := []
abbrev J_impl_PutWord : JT := jn [] []
noncomputable def O_impl_PutWord (N : Nat) : Orc E := noFn
theorem O_impl_PutWord_ok (N : Nat) : OrcOk (O_impl_PutWord N) := noFn_ok
def g_impl_PutWord (N : Nat) {R : Type} (n : Int) (k : ByteArray → Option R) : Option R :=
  (k (Go.Eng.toBytes (Go.Eng.seg [(Go.IntKind.wrap Go.IntKind.u8 (Go.IntKind.wrap Go.IntKind.u32 n)), (Go.IntKind.wrap Go.IntKind.u8 (Int.fdiv (Go.IntKind.wrap Go.IntKind.u32 n) (256 : Int))), (Go.IntKind.wrap Go.IntKind.u8 (Int.fdiv (Go.IntKind.wrap Go.IntKind.u32 n) (65536 : Int))), (Go.IntKind.wrap Go.IntKind.u8 (Int.fdiv (Go.IntKind.wrap Go.IntKind.u32 n) (16777216 : Int)))] 0 (List.length [(Go.IntKind.wrap Go.IntKind.u8 (Go.IntKind.wrap Go.IntKind.u32 n)), (Go.IntKind.wrap Go.IntKind.u8 (Int.fdiv (Go.IntKind.wrap Go.IntKind.u32 n) (256 : Int))), (Go.IntKind.wrap Go.IntKind.u8 (Int.fdiv (Go.IntKind.wrap Go.IntKind.u32 n) (65536 : Int))), (Go.IntKind.wrap Go.IntKind.u8 (Int.fdiv (Go.IntKind.wrap Go.IntKind.u32 n) (16777216 : Int)))]))))
theorem e_impl_PutWord (N : Nat) {R : Type} (n : Int) (K : AV → Hp E → Option R) :
    runFnI (E := E) (O_impl_PutWord N) (noIt) sl_impl_PutWord J_impl_PutWord Go.Proofs.Try.f91 [(Go.Eng.AV.sc (Go.Eng.SV.int Go.IntKind.i64 n))] [] K =
      g_impl_PutWord N n (fun s => K (Go.Eng.AV.sc (Go.Eng.SV.str s)) []) := by kernel_rfl
def o_impl_PutWord (N : Nat) {R : Type} (args : List AV) (H : Hp E) (K : AV → Hp E → Option R) : Option R :=
  match args, H with
  | [(Go.Eng.AV.sc (Go.Eng.SV.int Go.IntKind.i64 n))], [] => g_impl_PutWord N n (fun s => K (Go.Eng.AV.sc (Go.Eng.SV.str s)) [])
  | _, _ => none
theorem o_impl_PutWord_ok (N : Nat) : FnOk E 91 (o_impl_PutWord N) := by
  intro R args H K r h
  unfold o_impl_PutWord at h
  dsimp only at h
  split at h
  · exact fnB_ok (ids := []) (top := []) ok (O_impl_PutWord_ok N) (jn_ok _ _) Go.Proofs.Try.func91 (by kernel_rfl) (IT := noIt) (sl := sl_impl_PutWord) (J := J_impl_PutWord) (K := K) (H := []) (noIt_ok) (by kernel_rfl) rfl ((e_impl_PutWord N _ K).trans h)
  · cases h
/-! ### loop.example/g00038/spec.TablesOf -/
abbrev sl_spec_TablesOf_w : SlotT := [(0, ([1, 3, 4], [1, 3]))]
abbrev J_spec_TablesOf_w : JT := jn [] []
noncomputable def O_spec_TablesOf_w (N : Nat) : Orc E := addFn 87 (o_spec_PutWord N) (addFn 25 (o_spec_BoardFault_w N) (noFn))
theorem O_spec_TablesOf_w_ok (N : Nat) : OrcOk (O_spec_TablesOf_w N) := addFn_ok (o_spec_PutWord_ok N) (addFn_ok (o_spec_BoardFault_w_ok N) (noFn_ok))
def s_spec_TablesOf_w_0 (N : Nat) {R : Type} (l1 : List Go.Sa.Device) (n4 : Int) (n5 : Int) (b1 : Bool) (s : ByteArray) (n3 : Int) (ag : ByteArray → Int → Option R)  (kN : ByteArray → Option R) : Option R :=
  (cond (decide ((n3 < (((List.length l1) : Nat) : Int))))
  (cond ((decide (((0 : Int) ≤ n3))) && (decide ((n3 < (((List.length l1) : Nat) : Int)))))
    (elemK l1 (Int.toNat n3) fun x =>
      (g_spec_PutWord N (Go.IntKind.wrap Go.IntKind.i64 ((Go.IntKind.wrap Go.IntKind.i64 ((Go.IntKind.wrap Go.IntKind.i64 ((Go.Sa.Device.fKind x) * (16777216 : Int))) + (Go.IntKind.wrap Go.IntKind.i64 ((Go.Sa.Device.fLine x) * (65536 : Int))))) + (Go.Sa.Device.fPort x))) fun s1 =>
      (cond (Nat.ble ((ByteArray.size s) + (ByteArray.size s1)) 9223372036854775807)
      (ag (s ++ s1) (Go.IntKind.wrap Go.IntKind.i64 (n3 + (1 : Int))))
      none)))
    none)
  (kN s))
def l_spec_TablesOf_w_0 (N : Nat) {R : Type} (l1 : List Go.Sa.Device) (n4 : Int) (n5 : Int) (b1 : Bool) (kN : ByteArray → Option R) : Nat → ByteArray → Int → Option R
  | 0, _, _ => none
  | f + 1, s, n3 => s_spec_TablesOf_w_0 N l1 n4 n5 b1 s n3 (fun s n3 => l_spec_TablesOf_w_0 N l1 n4 n5 b1 kN f s n3)  kN
def c_spec_TablesOf_w_0 (N : Nat) {R : Type} (l1 : List Go.Sa.Device) (n4 : Int) (n5 : Int) (b1 : Bool) (s : ByteArray) (n3 : Int) (kN : ByteArray → Option R) : Option R := l_spec_TablesOf_w_0 N l1 n4 n5 b1 kN N s n3
theorem se_spec_TablesOf_w_0 (N : Nat) {R : Type} (l1 : List Go.Sa.Device) (n4 : Int) (n5 : Int) (b1 : Bool) (s : ByteArray) (n3 : Int) (AG : List (Option AV) → Hp E → Option R) (KL : Ex → List (Option AV) → Hp E → Option R) :
    iterStep (E := E) (O_spec_TablesOf_w N) (fun {R} => LI (noIt) 1 46 sl_spec_TablesOf_w (R := R)) J_spec_TablesOf_w 1 46 0 [1, 3, 4] [1, 3] (body Go.Proofs.Try.f47 0) AG KL [(Option.some (Go.Eng.AV.sc (Go.Eng.SV.ptr 1 0 0))), (Option.some (Go.Eng.AV.sc (Go.Eng.SV.str s))), (Option.some (Go.Eng.AV.sc (Go.Eng.SV.int Go.IntKind.i64 n3)))] [(Option.some (Go.Eng.HE.mk Bool.false (Go.Eng.HB.rows (Go.Sa.B.iDevice l1)))), (Option.some (Go.Eng.HE.mk Bool.false (Go.Eng.HB.exp [(Go.Eng.SV.int Go.IntKind.i64 n4), (Go.Eng.SV.int Go.IntKind.i64 n5), (Go.Eng.SV.slc 0 Option.none b1)])))] =
      s_spec_TablesOf_w_0 N l1 n4 n5 b1 s n3 (fun s n3 => AG [(Option.some (Go.Eng.AV.sc (Go.Eng.SV.ptr 1 0 0))), (Option.some (Go.Eng.AV.sc (Go.Eng.SV.str s))), (Option.some (Go.Eng.AV.sc (Go.Eng.SV.int Go.IntKind.i64 n3)))] [(Option.some (Go.Eng.HE.mk Bool.false (Go.Eng.HB.rows (Go.Sa.B.iDevice l1)))), (Option.some (Go.Eng.HE.mk Bool.false (Go.Eng.HB.exp [(Go.Eng.SV.int Go.IntKind.i64 n4), (Go.Eng.SV.int Go.IntKind.i64 n5), (Go.Eng.SV.slc 0 Option.none b1)])))])  (fun s5 => KL Go.Eng.Ex.normal [(Option.some (Go.Eng.AV.sc (Go.Eng.SV.ptr 1 0 0))), (Option.some (Go.Eng.AV.sc (Go.Eng.SV.str s5)))] [(Option.some (Go.Eng.HE.mk Bool.false (Go.Eng.HB.rows (Go.Sa.B.iDevice l1)))), (Option.some (Go.Eng.HE.mk Bool.false (Go.Eng.HB.exp [(Go.Eng.SV.int Go.IntKind.i64 n4), (Go.Eng.SV.int Go.IntKind.i64 n5), (Go.Eng.SV.slc 0 Option.none b1)])))]) := by kernel_rfl
theorem le_spec_TablesOf_w_0 (N : Nat) {R : Type} (l1 : List Go.Sa.Device) (n4 : Int) (n5 : Int) (b1 : Bool) (KL : Ex → List (Option AV) → Hp E → Option R) : ∀ (f : Nat), ∀ (s : ByteArray) (n3 : Int), iterK (E := E) (O_spec_TablesOf_w N) (fun {R} => LI (noIt) 1 46 sl_spec_TablesOf_w (R := R)) J_spec_TablesOf_w 1 46 0 [1, 3, 4] [1, 3] (body Go.Proofs.Try.f47 0) f [(Option.some (Go.Eng.AV.sc (Go.Eng.SV.ptr 1 0 0))), (Option.some (Go.Eng.AV.sc (Go.Eng.SV.str s))), (Option.some (Go.Eng.AV.sc (Go.Eng.SV.int Go.IntKind.i64 n3)))] [(Option.some (Go.Eng.HE.mk Bool.false (Go.Eng.HB.rows (Go.Sa.B.iDevice l1)))), (Option.some (Go.Eng.HE.mk Bool.false (Go.Eng.HB.exp [(Go.Eng.SV.int Go.IntKind.i64 n4), (Go.Eng.SV.int Go.IntKind.i64 n5), (Go.Eng.SV.slc 0 Option.none b1)])))] KL = l_spec_TablesOf_w_0 N l1 n4 n5 b1 (fun s5 => KL Go.Eng.Ex.normal [(Option.some (Go.Eng.AV.sc (Go.Eng.SV.ptr 1 0 0))), (Option.some (Go.Eng.AV.sc (Go.Eng.SV.str s5)))] [(Option.some (Go.Eng.HE.mk Bool.false (Go.Eng.HB.rows (Go.Sa.B.iDevice l1)))), (Option.some (Go.Eng.HE.mk Bool.false (Go.Eng.HB.exp [(Go.Eng.SV.int Go.IntKind.i64 n4), (Go.Eng.SV.int Go.IntKind.i64 n5), (Go.Eng.SV.slc 0 Option.none b1)])))]) f s n3 := by
  intro f
  induction f with
  | zero => intros; rfl
  | succ f ih =>
    intro s n3
    rw [iterK_succ, se_spec_TablesOf_w_0]
    exact (congrArg (fun z0 => s_spec_TablesOf_w_0 N l1 n4 n5 b1 s n3 z0 (fun s5 => KL Go.Eng.Ex.normal [(Option.some (Go.Eng.AV.sc (Go.Eng.SV.ptr 1 0 0))), (Option.some (Go.Eng.AV.sc (Go.Eng.SV.str s5)))] [(Option.some (Go.Eng.HE.mk Bool.false (Go.Eng.HB.rows (Go.Sa.B.iDevice l1)))), (Option.some (Go.Eng.HE.mk Bool.false (Go.Eng.HB.exp [(Go.Eng.SV.int Go.IntKind.i64 n4), (Go.Eng.SV.int Go.IntKind.i64 n5), (Go.Eng.SV.slc 0 Option.none b1)])))])) (funext fun s => funext fun n3 => ih s n3))
def i_spec_TablesOf_w_0 (N : Nat) {R : Type} (vs : List (Option AV)) (H : Hp E) (KL : Ex → List (Option AV) → Hp E → Option R) : Option R :=
  match vs, H with
  | [(Option.some (Go.Eng.AV.sc (Go.Eng.SV.ptr 1 0 0))), (Option.some (Go.Eng.AV.sc (Go.Eng.SV.str s))), (Option.some (Go.Eng.AV.sc (Go.Eng.SV.int Go.IntKind.i64 n3)))], [(Option.some (Go.Eng.HE.mk Bool.false (Go.Eng.HB.rows (Go.Sa.B.iDevice l1)))), (Option.some (Go.Eng.HE.mk Bool.false (Go.Eng.HB.exp [(Go.Eng.SV.int Go.IntKind.i64 n4), (Go.Eng.SV.int Go.IntKind.i64 n5), (Go.Eng.SV.slc 0 Option.none b1)])))] => c_spec_TablesOf_w_0 N l1 n4 n5 b1 s n3 (fun s6 => KL Go.Eng.Ex.normal [(Option.some (Go.Eng.AV.sc (Go.Eng.SV.ptr 1 0 0))), (Option.some (Go.Eng.AV.sc (Go.Eng.SV.str s6)))] [(Option.some (Go.Eng.HE.mk Bool.false (Go.Eng.HB.rows (Go.Sa.B.iDevice l1)))), (Option.some (Go.Eng.HE.mk Bool.false (Go.Eng.HB.exp [(Go.Eng.SV.int Go.IntKind.i64 n4), (Go.Eng.SV.int Go.IntKind.i64 n5), (Go.Eng.SV.slc 0 Option.none b1)])))])
  | _, _ => none
noncomputable def IT_spec_TablesOf_w_0 (N : Nat) : Its E := addIt 0 (i_spec_TablesOf_w_0 N) (noIt)
theorem IT_spec_TablesOf_w_0_ok (N : Nat) : ItOk (IT_spec_TablesOf_w_0 N) 1 46 sl_spec_TablesOf_w (lsB Go.Proofs.Try.f47 [0]) :=
  addItB_ok (inner := []) ok (O_spec_TablesOf_w_ok N) (jn_ok _ _) (noIt_ok) rfl (by kernel_rfl) rfl fun vs H KL r h => by
    unfold i_spec_TablesOf_w_0 at h
    split at h
    · exact ⟨_, (le_spec_TablesOf_w_0 N _ _ _ _ KL N _ _).trans h⟩
    · cases h
def g_spec_TablesOf_w (N : Nat) {R : Type} (n : Int) (n1 : Int) (b : Bool) (l : List Go.Sa.Device) (k : (List Go.Sa.FirmTable) → Option R) : Option R :=
  (g_spec_BoardFault_w N n n1 b l fun n2 =>
  (cond (n2 != (0 : Int))
  (k [])
  (c_spec_TablesOf_w_0 N l n n1 b (ByteArray.mk (List.toArray [])) (0 : Int) fun s2 =>
    (g_spec_PutWord N n fun s3 =>
    (g_spec_PutWord N n1 fun s4 =>
    (k [(Go.Sa.FirmTable.mk (ByteArray.mk (List.toArray [(77 : UInt8), (69 : UInt8), (77 : UInt8), (79 : UInt8)])) (1 : Int) s3), (Go.Sa.FirmTable.mk (ByteArray.mk (List.toArray [(67 : UInt8), (80 : UInt8), (85 : UInt8), (83 : UInt8)])) (1 : Int) s4), (Go.Sa.FirmTable.mk (ByteArray.mk (List.toArray [(68 : UInt8), (69 : UInt8), (86 : UInt8), (83 : UInt8)])) (1 : Int) s2)]))))))
theorem e_spec_TablesOf_w (N : Nat) {R : Type} (n : Int) (n1 : Int) (b : Bool) (l : List Go.Sa.Device) (K : AV → Hp E → Option R) :
    runFnI (E := E) (O_spec_TablesOf_w N) (IT_spec_TablesOf_w_0 N) sl_spec_TablesOf_w J_spec_TablesOf_w Go.Proofs.Try.f47 [(Go.Eng.AV.agg [(Go.Eng.SV.int Go.IntKind.i64 n), (Go.Eng.SV.int Go.IntKind.i64 n1), (Go.Eng.SV.slc 0 Option.none b)])] [(Option.some (Go.Eng.HE.mk Bool.false (Go.Eng.HB.rows (Go.Sa.B.iDevice l))))] K =
      g_spec_TablesOf_w N n n1 b l (fun l2 => K (Go.Eng.AV.sc (Go.Eng.SV.slc 1 Option.none Bool.false)) [(Option.some (Go.Eng.HE.mk Bool.false (Go.Eng.HB.rows (Go.Sa.B.iDevice l)))), (Option.some (Go.Eng.HE.mk Bool.false (Go.Eng.HB.rows (Go.Sa.B.iFirmTable l2))))]) := by kernel_rfl
def o_spec_TablesOf_w (N : Nat) {R : Type} (args : List AV) (H : Hp E) (K : AV → Hp E → Option R) : Option R :=
  match args, H with
  | [(Go.Eng.AV.agg [(Go.Eng.SV.int Go.IntKind.i64 n), (Go.Eng.SV.int Go.IntKind.i64 n1), (Go.Eng.SV.slc 0 Option.none b)])], [(Option.some (Go.Eng.HE.mk Bool.false (Go.Eng.HB.rows (Go.Sa.B.iDevice l))))] => g_spec_TablesOf_w N n n1 b l (fun l2 => K (Go.Eng.AV.sc (Go.Eng.SV.slc 1 Option.none Bool.false)) [(Option.some (Go.Eng.HE.mk Bool.false (Go.Eng.HB.rows (Go.Sa.B.iDevice l)))), (Option.some (Go.Eng.HE.mk Bool.false (Go.Eng.HB.rows (Go.Sa.B.iFirmTable l2))))])
  | _, _ => none
theorem o_spec_TablesOf_w_ok (N : Nat) : FnOk E 47 (o_spec_TablesOf_w N) := by
  intro R args H K r h
  unfold o_spec_TablesOf_w at h
  dsimp only at h
  split at h
  · exact fnB_ok (ids := [0]) (top := [0]) ok (O_spec_TablesOf_w_ok N) (jn_ok _ _) Go.Proofs.Try.func47 (by kernel_rfl) (IT := IT_spec_TablesOf_w_0 N) (sl := sl_spec_TablesOf_w) (J := J_spec_TablesOf_w) (K := K) (H := [(Option.some (Go.Eng.HE.mk Bool.false (Go.Eng.HB.rows (Go.Sa.B.iDevice _))))]) (IT_spec_TablesOf_w_0_ok N) (by kernel_rfl) rfl ((e_spec_TablesOf_w N _ _ _ _ K).trans h)
  · cases h
/-! ### loop.example/g00038/impl.TablesOf -/
abbrev sl_impl_TablesOf_w : SlotT := [(0, ([1, 3, 10, 11, 12], [1, 3]))]
abbrev J_impl_TablesOf_w : JT := jn [] []
noncomputable def O_impl_TablesOf_w (N : Nat) : Orc E := addFn 91 (o_impl_PutWord N) (addFn 27 (o_impl_BoardFault_w N) (noFn))
theorem O_impl_TablesOf_w_ok (N : Nat) : OrcOk (O_impl_TablesOf_w N) := addFn_ok (o_impl_PutWord_ok N) (addFn_ok (o_impl_BoardFault_w_ok N) (noFn_ok))
def s_impl_TablesOf_w_0 (N : Nat) {R : Type} (b1 : Bool) (n3 : Int) (l1 : List Go.Sa.Device) (n5 : Int) (n6 : Int) (b2 : Bool) (s : ByteArray) (n4 : Int) (ag : ByteArray → Int → Option R)  (kN : ByteArray → Option R) : Option R :=
  (cond (decide ((n4 < n3)))
  (cond ((decide (((0 : Int) ≤ n4))) && (decide ((n4 < (((List.length l1) : Nat) : Int)))))
    (elemK l1 (Int.toNat n4) fun x =>
      (g_impl_PutWord N (Go.IntKind.wrap Go.IntKind.i64 ((Go.IntKind.wrap Go.IntKind.i64 ((Go.IntKind.wrap Go.IntKind.i64 ((Go.Sa.Device.fKind x) * (16777216 : Int))) + (Go.IntKind.wrap Go.IntKind.i64 ((Go.Sa.Device.fLine x) * (65536 : Int))))) + (Go.Sa.Device.fPort x))) fun s1 =>
      (cond (Nat.ble ((ByteArray.size s) + (ByteArray.size s1)) 9223372036854775807)
      (ag (s ++ s1) (Go.IntKind.wrap Go.IntKind.i64 (n4 + (1 : Int))))
      none)))
    none)
  (kN s))
def l_impl_TablesOf_w_0 (N : Nat) {R : Type} (b1 : Bool) (n3 : Int) (l1 : List Go.Sa.Device) (n5 : Int) (n6 : Int) (b2 : Bool) (kN : ByteArray → Option R) : Nat → ByteArray → Int → Option R
  | 0, _, _ => none
  | f + 1, s, n4 => s_impl_TablesOf_w_0 N b1 n3 l1 n5 n6 b2 s n4 (fun s n4 => l_impl_TablesOf_w_0 N b1 n3 l1 n5 n6 b2 kN f s n4)  kN
def c_impl_TablesOf_w_0 (N : Nat) {R : Type} (b1 : Bool) (n3 : Int) (l1 : List Go.Sa.Device) (n5 : Int) (n6 : Int) (b2 : Bool) (s : ByteArray) (n4 : Int) (kN : ByteArray → Option R) : Option R := l_impl_TablesOf_w_0 N b1 n3 l1 n5 n6 b2 kN N s n4
theorem se_impl_TablesOf_w_0 (N : Nat) {R : Type} (b1 : Bool) (n3 : Int) (l1 : List Go.Sa.Device) (n5 : Int) (n6 : Int) (b2 : Bool) (s : ByteArray) (n4 : Int) (AG : List (Option AV) → Hp E → Option R) (KL : Ex → List (Option AV) → Hp E → Option R) :
    iterStep (E := E) (O_impl_TablesOf_w N) (fun {R} => LI (noIt) 1 41 sl_impl_TablesOf_w (R := R)) J_impl_TablesOf_w 1 41 0 [1, 3, 10, 11, 12] [1, 3] (body Go.Proofs.Try.f48 0) AG KL [(Option.some (Go.Eng.AV.sc (Go.Eng.SV.ptr 1 0 0))), (Option.some (Go.Eng.AV.sc (Go.Eng.SV.str s))), (Option.some (Go.Eng.AV.sc (Go.Eng.SV.slc 0 Option.none b1))), (Option.some (Go.Eng.AV.sc (Go.Eng.SV.int Go.IntKind.i64 n3))), (Option.some (Go.Eng.AV.sc (Go.Eng.SV.int Go.IntKind.i64 n4)))] [(Option.some (Go.Eng.HE.mk Bool.false (Go.Eng.HB.rows (Go.Sa.B.iDevice l1)))), (Option.some (Go.Eng.HE.mk Bool.false (Go.Eng.HB.exp [(Go.Eng.SV.int Go.IntKind.i64 n5), (Go.Eng.SV.int Go.IntKind.i64 n6), (Go.Eng.SV.slc 0 Option.none b2)])))] =
      s_impl_TablesOf_w_0 N b1 n3 l1 n5 n6 b2 s n4 (fun s n4 => AG [(Option.some (Go.Eng.AV.sc (Go.Eng.SV.ptr 1 0 0))), (Option.some (Go.Eng.AV.sc (Go.Eng.SV.str s))), (Option.some (Go.Eng.AV.sc (Go.Eng.SV.slc 0 Option.none b1))), (Option.some (Go.Eng.AV.sc (Go.Eng.SV.int Go.IntKind.i64 n3))), (Option.some (Go.Eng.AV.sc (Go.Eng.SV.int Go.IntKind.i64 n4)))] [(Option.some (Go.Eng.HE.mk Bool.false (Go.Eng.HB.rows (Go.Sa.B.iDevice l1)))), (Option.some (Go.Eng.HE.mk Bool.false (Go.Eng.HB.exp [(Go.Eng.SV.int Go.IntKind.i64 n5), (Go.Eng.SV.int Go.IntKind.i64 n6), (Go.Eng.SV.slc 0 Option.none b2)])))])  (fun s5 => KL Go.Eng.Ex.normal [(Option.some (Go.Eng.AV.sc (Go.Eng.SV.ptr 1 0 0))), (Option.some (Go.Eng.AV.sc (Go.Eng.SV.str s5)))] [(Option.some (Go.Eng.HE.mk Bool.false (Go.Eng.HB.rows (Go.Sa.B.iDevice l1)))), (Option.some (Go.Eng.HE.mk Bool.false (Go.Eng.HB.exp [(Go.Eng.SV.int Go.IntKind.i64 n5), (Go.Eng.SV.int Go.IntKind.i64 n6), (Go.Eng.SV.slc 0 Option.none b2)])))]) := by kernel_rfl
theorem le_impl_TablesOf_w_0 (N : Nat) {R : Type} (b1 : Bool) (n3 : Int) (l1 : List Go.Sa.Device) (n5 : Int) (n6 : Int) (b2 : Bool) (KL : Ex → List (Option AV) → Hp E → Option R) : ∀ (f : Nat), ∀ (s : ByteArray) (n4 : Int), iterK (E := E) (O_impl_TablesOf_w N) (fun {R} => LI (noIt) 1 41 sl_impl_TablesOf_w (R := R)) J_impl_TablesOf_w 1 41 0 [1, 3, 10, 11, 12] [1, 3] (body Go.Proofs.Try.f48 0) f [(Option.some (Go.Eng.AV.sc (Go.Eng.SV.ptr 1 0 0))), (Option.some (Go.Eng.AV.sc (Go.Eng.SV.str s))), (Option.some (Go.Eng.AV.sc (Go.Eng.SV.slc 0 Option.none b1))), (Option.some (Go.Eng.AV.sc (Go.Eng.SV.int Go.IntKind.i64 n3))), (Option.some (Go.Eng.AV.sc (Go.Eng.SV.int Go.IntKind.i64 n4)))] [(Option.some (Go.Eng.HE.mk Bool.false (Go.Eng.HB.rows (Go.Sa.B.iDevice l1)))), (Option.some (Go.Eng.HE.mk Bool.false (Go.Eng.HB.exp [(Go.Eng.SV.int Go.IntKind.i64 n5), (Go.Eng.SV.int Go.IntKind.i64 n6), (Go.Eng.SV.slc 0 Option.none b2)])))] KL = l_impl_TablesOf_w_0 N b1 n3 l1 n5 n6 b2 (fun s5 => KL Go.Eng.Ex.normal [(Option.some (Go.Eng.AV.sc (Go.Eng.SV.ptr 1 0 0))), (Option.some (Go.Eng.AV.sc (Go.Eng.SV.str s5)))] [(Option.some (Go.Eng.HE.mk Bool.false (Go.Eng.HB.rows (Go.Sa.B.iDevice l1)))), (Option.some (Go.Eng.HE.mk Bool.false (Go.Eng.HB.exp [(Go.Eng.SV.int Go.IntKind.i64 n5), (Go.Eng.SV.int Go.IntKind.i64 n6), (Go.Eng.SV.slc 0 Option.none b2)])))]) f s n4 := by
  intro f
  induction f with
  | zero => intros; rfl
  | succ f ih =>
    intro s n4
    rw [iterK_succ, se_impl_TablesOf_w_0]
    exact (congrArg (fun z0 => s_impl_TablesOf_w_0 N b1 n3 l1 n5 n6 b2 s n4 z0 (fun s5 => KL Go.Eng.Ex.normal [(Option.some (Go.Eng.AV.sc (Go.Eng.SV.ptr 1 0 0))), (Option.some (Go.Eng.AV.sc (Go.Eng.SV.str s5)))] [(Option.some (Go.Eng.HE.mk Bool.false (Go.Eng.HB.rows (Go.Sa.B.iDevice l1)))), (Option.some (Go.Eng.HE.mk Bool.false (Go.Eng.HB.exp [(Go.Eng.SV.int Go.IntKind.i64 n5), (Go.Eng.SV.int Go.IntKind.i64 n6), (Go.Eng.SV.slc 0 Option.none b2)])))])) (funext fun s => funext fun n4 => ih s n4))
def i_impl_TablesOf_w_0 (N : Nat) {R : Type} (vs : List (Option AV)) (H : Hp E) (KL : Ex → List (Option AV) → Hp E → Option R) : Option R :=
  match vs, H with
  | [(Option.some (Go.Eng.AV.sc (Go.Eng.SV.ptr 1 0 0))), (Option.some (Go.Eng.AV.sc (Go.Eng.SV.str s))), (Option.some (Go.Eng.AV.sc (Go.Eng.SV.slc 0 Option.none b1))), (Option.some (Go.Eng.AV.sc (Go.Eng.SV.int Go.IntKind.i64 n3))), (Option.some (Go.Eng.AV.sc (Go.Eng.SV.int Go.IntKind.i64 n4)))], [(Option.some (Go.Eng.HE.mk Bool.false (Go.Eng.HB.rows (Go.Sa.B.iDevice l1)))), (Option.some (Go.Eng.HE.mk Bool.false (Go.Eng.HB.exp [(Go.Eng.SV.int Go.IntKind.i64 n5), (Go.Eng.SV.int Go.IntKind.i64 n6), (Go.Eng.SV.slc 0 Option.none b2)])))] => c_impl_TablesOf_w_0 N b1 n3 l1 n5 n6 b2 s n4 (fun s6 => KL Go.Eng.Ex.normal [(Option.some (Go.Eng.AV.sc (Go.Eng.SV.ptr 1 0 0))), (Option.some (Go.Eng.AV.sc (Go.Eng.SV.str s6)))] [(Option.some (Go.Eng.HE.mk Bool.false (Go.Eng.HB.rows (Go.Sa.B.iDevice l1)))), (Option.some (Go.Eng.HE.mk Bool.false (Go.Eng.HB.exp [(Go.Eng.SV.int Go.IntKind.i64 n5), (Go.Eng.SV.int Go.IntKind.i64 n6), (Go.Eng.SV.slc 0 Option.none b2)])))])
  | _, _ => none
noncomputable def IT_impl_TablesOf_w_0 (N : Nat) : Its E := addIt 0 (i_impl_TablesOf_w_0 N) (noIt)
theorem IT_impl_TablesOf_w_0_ok (N : Nat) : ItOk (IT_impl_TablesOf_w_0 N) 1 41 sl_impl_TablesOf_w (lsB Go.Proofs.Try.f48 [0]) :=
  addItB_ok (inner := []) ok (O_impl_TablesOf_w_ok N) (jn_ok _ _) (noIt_ok) rfl (by kernel_rfl) rfl fun vs H KL r h => by
    unfold i_impl_TablesOf_w_0 at h
    split at h
    · exact ⟨_, (le_impl_TablesOf_w_0 N _ _ _ _ _ _ KL N _ _).trans h⟩
    · cases h
def g_impl_TablesOf_w (N : Nat) {R : Type} (n : Int) (n1 : Int) (b : Bool) (l : List Go.Sa.Device) (k : Bool → (List Go.Sa.FirmTable) → Option R) : Option R :=
  (g_impl_BoardFault_w N n n1 b l fun n2 =>
  (cond (n2 != (0 : Int))
  (k Bool.true [])
  (c_impl_TablesOf_w_0 N b (((List.length l) : Nat) : Int) l n n1 b (ByteArray.mk (List.toArray [])) (0 : Int) fun s2 =>
    (g_impl_PutWord N n fun s3 =>
    (g_impl_PutWord N n1 fun s4 =>
    (k Bool.false [(Go.Sa.FirmTable.mk (ByteArray.mk (List.toArray [(77 : UInt8), (69 : UInt8), (77 : UInt8), (79 : UInt8)])) (1 : Int) s3), (Go.Sa.FirmTable.mk (ByteArray.mk (List.toArray [(67 : UInt8), (80 : UInt8), (85 : UInt8), (83 : UInt8)])) (1 : Int) s4), (Go.Sa.FirmTable.mk (ByteArray.mk (List.toArray [(68 : UInt8), (69 : UInt8), (86 : UInt8), (83 : UInt8)])) (1 : Int) s2)]))))))
theorem e_impl_TablesOf_w (N : Nat) {R : Type} (n : Int) (n1 : Int) (b : Bool) (l : List Go.Sa.Device) (K : AV → Hp E → Option R) :
    runFnI (E := E) (O_impl_TablesOf_w N) (IT_impl_TablesOf_w_0 N) sl_impl_TablesOf_w J_impl_TablesOf_w Go.Proofs.Try.f48 [(Go.Eng.AV.agg [(Go.Eng.SV.int Go.IntKind.i64 n), (Go.Eng.SV.int Go.IntKind.i64 n1), (Go.Eng.SV.slc 0 Option.none b)])] [(Option.some (Go.Eng.HE.mk Bool.false (Go.Eng.HB.rows (Go.Sa.B.iDevice l))))] K =
      g_impl_TablesOf_w N n n1 b l (fun b3 l2 => K (Go.Eng.AV.sc (Go.Eng.SV.slc 1 Option.none b3)) [(Option.some (Go.Eng.HE.mk Bool.false (Go.Eng.HB.rows (Go.Sa.B.iDevice l)))), (Option.some (Go.Eng.HE.mk Bool.false (Go.Eng.HB.rows (Go.Sa.B.iFirmTable l2))))]) := by kernel_rfl
def o_impl_TablesOf_w (N : Nat) {R : Type} (args : List AV) (H : Hp E) (K : AV → Hp E → Option R) : Option R :=
  match args, H with
  | [(Go.Eng.AV.agg [(Go.Eng.SV.int Go.IntKind.i64 n), (Go.Eng.SV.int Go.IntKind.i64 n1), (Go.Eng.SV.slc 0 Option.none b)])], [(Option.some (Go.Eng.HE.mk Bool.false (Go.Eng.HB.rows (Go.Sa.B.iDevice l))))] => g_impl_TablesOf_w N n n1 b l (fun b3 l2 => K (Go.Eng.AV.sc (Go.Eng.SV.slc 1 Option.none b3)) [(Option.some (Go.Eng.HE.mk Bool.false (Go.Eng.HB.rows (Go.Sa.B.iDevice l)))), (Option.some (Go.Eng.HE.mk Bool.false (Go.Eng.HB.rows (Go.Sa.B.iFirmTable l2))))])
  | _, _ => none
theorem o_impl_TablesOf_w_ok (N : Nat) : FnOk E 48 (o_impl_TablesOf_w N) := by
  intro R args H K r h
  unfold o_impl_TablesOf_w at h
  dsimp only at h
  split at h
  · exact fnB_ok (ids := [0]) (top := [0]) ok (O_impl_TablesOf_w_ok N) (jn_ok _ _) Go.Proofs.Try.func48 (by kernel_rfl) (IT := IT_impl_TablesOf_w_0 N) (sl := sl_impl_TablesOf_w) (J := J_impl_TablesOf_w) (K := K) (H := [(Option.some (Go.Eng.HE.mk Bool.false (Go.Eng.HB.rows (Go.Sa.B.iDevice _))))]) (IT_impl_TablesOf_w_0_ok N) (by kernel_rfl) rfl ((e_impl_TablesOf_w N _ _ _ _ K).trans h)
  · cases h
/-! ### loop.example/g00038/laws.eqFirmTable -/
abbrev sl_laws_eqFirmTable : SlotT := []
abbrev J_laws_eqFirmTable : JT := jn [] []
noncomputable def O_laws_eqFirmTable (N : Nat) : Orc E := noFn
theorem O_laws_eqFirmTable_ok (N : Nat) : OrcOk (O_laws_eqFirmTable N) := noFn_ok
def g_laws_eqFirmTable (N : Nat) {R : Type} (s : ByteArray) (n : Int) (s1 : ByteArray) (s2 : ByteArray) (n1 : Int) (s3 : ByteArray) (k : Bool → Option R) : Option R :=
  (cond (!(decide ((s = s2))))
  (k Bool.false)
  (cond (n != n1)
    (k Bool.false)
    (cond (!(decide ((s1 = s3))))
      (k Bool.false)
      (k Bool.true))))
theorem e_laws_eqFirmTable (N : Nat) {R : Type} (s : ByteArray) (n : Int) (s1 : ByteArray) (s2 : ByteArray) (n1 : Int) (s3 : ByteArray) (K : AV → Hp E → Option R) :
    runFnI (E := E) (O_laws_eqFirmTable N) (noIt) sl_laws_eqFirmTable J_laws_eqFirmTable Go.Proofs.Try.f98 [(Go.Eng.AV.agg [(Go.Eng.SV.str s), (Go.Eng.SV.int Go.IntKind.i64 n), (Go.Eng.SV.str s1)]), (Go.Eng.AV.agg [(Go.Eng.SV.str s2), (Go.Eng.SV.int Go.IntKind.i64 n1), (Go.Eng.SV.str s3)])] [] K =
      g_laws_eqFirmTable N s n s1 s2 n1 s3 (fun b => K (Go.Eng.AV.sc (Go.Eng.SV.bool b)) []) := by kernel_rfl
def o_laws_eqFirmTable (N : Nat) {R : Type} (args : List AV) (H : Hp E) (K : AV → Hp E → Option R) : Option R :=
  match args, H with
  | [(Go.Eng.AV.agg [(Go.Eng.SV.str s), (Go.Eng.SV.int Go.IntKind.i64 n), (Go.Eng.SV.str s1)]), (Go.Eng.AV.agg [(Go.Eng.SV.str s2), (Go.Eng.SV.int Go.IntKind.i64 n1), (Go.Eng.SV.str s3)])], [] => g_laws_eqFirmTable N s n s1 s2 n1 s3 (fun b => K (Go.Eng.AV.sc (Go.Eng.SV.bool b)) [])
  | _, _ => none
theorem o_laws_eqFirmTable_ok (N : Nat) : FnOk E 98 (o_laws_eqFirmTable N) := by
  intro R args H K r h
  unfold o_laws_eqFirmTable at h
  dsimp only at h
  split at h
  · exact fnB_ok (ids := []) (top := []) ok (O_laws_eqFirmTable_ok N) (jn_ok _ _) Go.Proofs.Try.func98 (by kernel_rfl) (IT := noIt) (sl := sl_laws_eqFirmTable) (J := J_laws_eqFirmTable) (K := K) (H := []) (noIt_ok) (by kernel_rfl) rfl ((e_laws_eqFirmTable N _ _ _ _ _ _ K).trans h)
  · cases h
/-! ### loop.example/g00038/laws.eqFirmTableS -/
abbrev sl_laws_eqFirmTableS_ww : SlotT := [(0, ([0, 1, 5], [4]))]
abbrev J_laws_eqFirmTableS_ww : JT := jn [] []
noncomputable def O_laws_eqFirmTableS_ww (N : Nat) : Orc E := addFn 98 (o_laws_eqFirmTable N) (noFn)
theorem O_laws_eqFirmTableS_ww_ok (N : Nat) : OrcOk (O_laws_eqFirmTableS_ww N) := addFn_ok (o_laws_eqFirmTable_ok N) (noFn_ok)
def s_laws_eqFirmTableS_ww_0 (N : Nat) {R : Type} (b2 : Bool) (b3 : Bool) (l2 : List Go.Sa.FirmTable) (l3 : List Go.Sa.FirmTable) (n : Int) (ag : Int → Option R)  (kR : Option R) (kN : Option R) : Option R :=
  (cond (decide ((n < (((List.length l2) : Nat) : Int))))
  (cond ((decide (((0 : Int) ≤ n))) && (decide ((n < (((List.length l2) : Nat) : Int)))))
    (elemK l2 (Int.toNat n) fun x =>
      (cond ((decide (((0 : Int) ≤ n))) && (decide ((n < (((List.length l3) : Nat) : Int)))))
      (elemK l3 (Int.toNat n) fun x1 =>
        (g_laws_eqFirmTable N (Go.Sa.FirmTable.fName x) (Go.Sa.FirmTable.fRev x) (Go.Sa.FirmTable.fBody x) (Go.Sa.FirmTable.fName x1) (Go.Sa.FirmTable.fRev x1) (Go.Sa.FirmTable.fBody x1) fun b4 =>
        (cond (!b4)
        kR
        (ag (Go.IntKind.wrap Go.IntKind.i64 (n + (1 : Int)))))))
      none))
    none)
  kN)
def l_laws_eqFirmTableS_ww_0 (N : Nat) {R : Type} (b2 : Bool) (b3 : Bool) (l2 : List Go.Sa.FirmTable) (l3 : List Go.Sa.FirmTable) (kR : Option R) (kN : Option R) : Nat → Int → Option R
  | 0, _ => none
  | f + 1, n => s_laws_eqFirmTableS_ww_0 N b2 b3 l2 l3 n (fun n => l_laws_eqFirmTableS_ww_0 N b2 b3 l2 l3 kR kN f n)  kR kN
def c_laws_eqFirmTableS_ww_0 (N : Nat) {R : Type} (b2 : Bool) (b3 : Bool) (l2 : List Go.Sa.FirmTable) (l3 : List Go.Sa.FirmTable) (n : Int) (kR : Option R) (kN : Option R) : Option R := l_laws_eqFirmTableS_ww_0 N b2 b3 l2 l3 kR kN N n
theorem se_laws_eqFirmTableS_ww_0 (N : Nat) {R : Type} (b2 : Bool) (b3 : Bool) (l2 : List Go.Sa.FirmTable) (l3 : List Go.Sa.FirmTable) (n : Int) (AG : List (Option AV) → Hp E → Option R) (KL : Ex → List (Option AV) → Hp E → Option R) :
    iterStep (E := E) (O_laws_eqFirmTableS_ww N) (fun {R} => LI (noIt) 2 27 sl_laws_eqFirmTableS_ww (R := R)) J_laws_eqFirmTableS_ww 2 27 0 [0, 1, 5] [4] (body Go.Proofs.Try.f49 0) AG KL [(Option.some (Go.Eng.AV.sc (Go.Eng.SV.slc 0 Option.none b2))), (Option.some (Go.Eng.AV.sc (Go.Eng.SV.slc 1 Option.none b3))), (Option.some (Go.Eng.AV.sc (Go.Eng.SV.int Go.IntKind.i64 n)))] [(Option.some (Go.Eng.HE.mk Bool.false (Go.Eng.HB.rows (Go.Sa.B.iFirmTable l2)))), (Option.some (Go.Eng.HE.mk Bool.false (Go.Eng.HB.rows (Go.Sa.B.iFirmTable l3))))] =
      s_laws_eqFirmTableS_ww_0 N b2 b3 l2 l3 n (fun n => AG [(Option.some (Go.Eng.AV.sc (Go.Eng.SV.slc 0 Option.none b2))), (Option.some (Go.Eng.AV.sc (Go.Eng.SV.slc 1 Option.none b3))), (Option.some (Go.Eng.AV.sc (Go.Eng.SV.int Go.IntKind.i64 n)))] [(Option.some (Go.Eng.HE.mk Bool.false (Go.Eng.HB.rows (Go.Sa.B.iFirmTable l2)))), (Option.some (Go.Eng.HE.mk Bool.false (Go.Eng.HB.rows (Go.Sa.B.iFirmTable l3))))])  (KL Go.Eng.Ex.ret [(Option.some (Go.Eng.AV.sc (Go.Eng.SV.bool Bool.false)))] [(Option.some (Go.Eng.HE.mk Bool.false (Go.Eng.HB.rows (Go.Sa.B.iFirmTable l2)))), (Option.some (Go.Eng.HE.mk Bool.false (Go.Eng.HB.rows (Go.Sa.B.iFirmTable l3))))]) (KL Go.Eng.Ex.normal [Option.none] [(Option.some (Go.Eng.HE.mk Bool.false (Go.Eng.HB.rows (Go.Sa.B.iFirmTable l2)))), (Option.some (Go.Eng.HE.mk Bool.false (Go.Eng.HB.rows (Go.Sa.B.iFirmTable l3))))]) := by kernel_rfl
theorem le_laws_eqFirmTableS_ww_0 (N : Nat) {R : Type} (b2 : Bool) (b3 : Bool) (l2 : List Go.Sa.FirmTable) (l3 : List Go.Sa.FirmTable) (KL : Ex → List (Option AV) → Hp E → Option R) : ∀ (f : Nat), ∀ (n : Int), iterK (E := E) (O_laws_eqFirmTableS_ww N) (fun {R} => LI (noIt) 2 27 sl_laws_eqFirmTableS_ww (R := R)) J_laws_eqFirmTableS_ww 2 27 0 [0, 1, 5] [4] (body Go.Proofs.Try.f49 0) f [(Option.some (Go.Eng.AV.sc (Go.Eng.SV.slc 0 Option.none b2))), (Option.some (Go.Eng.AV.sc (Go.Eng.SV.slc 1 Option.none b3))), (Option.some (Go.Eng.AV.sc (Go.Eng.SV.int Go.IntKind.i64 n)))] [(Option.some (Go.Eng.HE.mk Bool.false (Go.Eng.HB.rows (Go.Sa.B.iFirmTable l2)))), (Option.some (Go.Eng.HE.mk Bool.false (Go.Eng.HB.rows (Go.Sa.B.iFirmTable l3))))] KL = l_laws_eqFirmTableS_ww_0 N b2 b3 l2 l3 (KL Go.Eng.Ex.ret [(Option.some (Go.Eng.AV.sc (Go.Eng.SV.bool Bool.false)))] [(Option.some (Go.Eng.HE.mk Bool.false (Go.Eng.HB.rows (Go.Sa.B.iFirmTable l2)))), (Option.some (Go.Eng.HE.mk Bool.false (Go.Eng.HB.rows (Go.Sa.B.iFirmTable l3))))]) (KL Go.Eng.Ex.normal [Option.none] [(Option.some (Go.Eng.HE.mk Bool.false (Go.Eng.HB.rows (Go.Sa.B.iFirmTable l2)))), (Option.some (Go.Eng.HE.mk Bool.false (Go.Eng.HB.rows (Go.Sa.B.iFirmTable l3))))]) f n := by
  intro f
  induction f with
  | zero => intros; rfl
  | succ f ih =>
    intro n
    rw [iterK_succ, se_laws_eqFirmTableS_ww_0]
    exact (congrArg (fun z0 => s_laws_eqFirmTableS_ww_0 N b2 b3 l2 l3 n z0 (KL Go.Eng.Ex.ret [(Option.some (Go.Eng.AV.sc (Go.Eng.SV.bool Bool.false)))] [(Option.some (Go.Eng.HE.mk Bool.false (Go.Eng.HB.rows (Go.Sa.B.iFirmTable l2)))), (Option.some (Go.Eng.HE.mk Bool.false (Go.Eng.HB.rows (Go.Sa.B.iFirmTable l3))))]) (KL Go.Eng.Ex.normal [Option.none] [(Option.some (Go.Eng.HE.mk Bool.false (Go.Eng.HB.rows (Go.Sa.B.iFirmTable l2)))), (Option.some (Go.Eng.HE.mk Bool.false (Go.Eng.HB.rows (Go.Sa.B.iFirmTable l3))))])) (funext fun n => ih n))
def i_laws_eqFirmTableS_ww_0 (N : Nat) {R : Type} (vs : List (Option AV)) (H : Hp E) (KL : Ex → List (Option AV) → Hp E → Option R) : Option R :=
  match vs, H with
  | [(Option.some (Go.Eng.AV.sc (Go.Eng.SV.slc 0 Option.none b2))), (Option.some (Go.Eng.AV.sc (Go.Eng.SV.slc 1 Option.none b3))), (Option.some (Go.Eng.AV.sc (Go.Eng.SV.int Go.IntKind.i64 n)))], [(Option.some (Go.Eng.HE.mk Bool.false (Go.Eng.HB.rows (Go.Sa.B.iFirmTable l2)))), (Option.some (Go.Eng.HE.mk Bool.false (Go.Eng.HB.rows (Go.Sa.B.iFirmTable l3))))] => c_laws_eqFirmTableS_ww_0 N b2 b3 l2 l3 n (KL Go.Eng.Ex.ret [(Option.some (Go.Eng.AV.sc (Go.Eng.SV.bool Bool.false)))] [(Option.some (Go.Eng.HE.mk Bool.false (Go.Eng.HB.rows (Go.Sa.B.iFirmTable l2)))), (Option.some (Go.Eng.HE.mk Bool.false (Go.Eng.HB.rows (Go.Sa.B.iFirmTable l3))))]) (KL Go.Eng.Ex.normal [Option.none] [(Option.some (Go.Eng.HE.mk Bool.false (Go.Eng.HB.rows (Go.Sa.B.iFirmTable l2)))), (Option.some (Go.Eng.HE.mk Bool.false (Go.Eng.HB.rows (Go.Sa.B.iFirmTable l3))))])
  | _, _ => none
noncomputable def IT_laws_eqFirmTableS_ww_0 (N : Nat) : Its E := addIt 0 (i_laws_eqFirmTableS_ww_0 N) (noIt)
theorem IT_laws_eqFirmTableS_ww_0_ok (N : Nat) : ItOk (IT_laws_eqFirmTableS_ww_0 N) 2 27 sl_laws_eqFirmTableS_ww (lsB Go.Proofs.Try.f49 [0]) :=
  addItB_ok (inner := []) ok (O_laws_eqFirmTableS_ww_ok N) (jn_ok _ _) (noIt_ok) rfl (by kernel_rfl) rfl fun vs H KL r h => by
    unfold i_laws_eqFirmTableS_ww_0 at h
    split at h
    · exact ⟨_, (le_laws_eqFirmTableS_ww_0 N _ _ _ _ KL N _).trans h⟩
    · cases h
def g_laws_eqFirmTableS_ww (N : Nat) {R : Type} (b : Bool) (b1 : Bool) (l : List Go.Sa.FirmTable) (l1 : List Go.Sa.FirmTable) (k : Bool → Option R) : Option R :=
  (cond ((((List.length l) : Nat) : Int) != (((List.length l1) : Nat) : Int))
  (k Bool.false)
  (c_laws_eqFirmTableS_ww_0 N b b1 l l1 (0 : Int) (
    (k Bool.false)) (
    (k Bool.true))))
theorem e_laws_eqFirmTableS_ww (N : Nat) {R : Type} (b : Bool) (b1 : Bool) (l : List Go.Sa.FirmTable) (l1 : List Go.Sa.FirmTable) (K : AV → Hp E → Option R) :
    runFnI (E := E) (O_laws_eqFirmTableS_ww N) (IT_laws_eqFirmTableS_ww_0 N) sl_laws_eqFirmTableS_ww J_laws_eqFirmTableS_ww Go.Proofs.Try.f49 [(Go.Eng.AV.sc (Go.Eng.SV.slc 0 Option.none b)), (Go.Eng.AV.sc (Go.Eng.SV.slc 1 Option.none b1))] [(Option.some (Go.Eng.HE.mk Bool.false (Go.Eng.HB.rows (Go.Sa.B.iFirmTable l)))), (Option.some (Go.Eng.HE.mk Bool.false (Go.Eng.HB.rows (Go.Sa.B.iFirmTable l1))))] K =
      g_laws_eqFirmTableS_ww N b b1 l l1 (fun b5 => K (Go.Eng.AV.sc (Go.Eng.SV.bool b5)) [(Option.some (Go.Eng.HE.mk Bool.false (Go.Eng.HB.rows (Go.Sa.B.iFirmTable l)))), (Option.some (Go.Eng.HE.mk Bool.false (Go.Eng.HB.rows (Go.Sa.B.iFirmTable l1))))]) := by kernel_rfl
def o_laws_eqFirmTableS_ww (N : Nat) {R : Type} (args : List AV) (H : Hp E) (K : AV → Hp E → Option R) : Option R :=
  match args, H with
  | [(Go.Eng.AV.sc (Go.Eng.SV.slc 0 Option.none b)), (Go.Eng.AV.sc (Go.Eng.SV.slc 1 Option.none b1))], [(Option.some (Go.Eng.HE.mk Bool.false (Go.Eng.HB.rows (Go.Sa.B.iFirmTable l)))), (Option.some (Go.Eng.HE.mk Bool.false (Go.Eng.HB.rows (Go.Sa.B.iFirmTable l1))))] => g_laws_eqFirmTableS_ww N b b1 l l1 (fun b5 => K (Go.Eng.AV.sc (Go.Eng.SV.bool b5)) [(Option.some (Go.Eng.HE.mk Bool.false (Go.Eng.HB.rows (Go.Sa.B.iFirmTable l)))), (Option.some (Go.Eng.HE.mk Bool.false (Go.Eng.HB.rows (Go.Sa.B.iFirmTable l1))))])
  | _, _ => none
theorem o_laws_eqFirmTableS_ww_ok (N : Nat) : FnOk E 49 (o_laws_eqFirmTableS_ww N) := by
  intro R args H K r h
  unfold o_laws_eqFirmTableS_ww at h
  dsimp only at h
  split at h
  · exact fnB_ok (ids := [0]) (top := [0]) ok (O_laws_eqFirmTableS_ww_ok N) (jn_ok _ _) Go.Proofs.Try.func49 (by kernel_rfl) (IT := IT_laws_eqFirmTableS_ww_0 N) (sl := sl_laws_eqFirmTableS_ww) (J := J_laws_eqFirmTableS_ww) (K := K) (H := [(Option.some (Go.Eng.HE.mk Bool.false (Go.Eng.HB.rows (Go.Sa.B.iFirmTable _)))), (Option.some (Go.Eng.HE.mk Bool.false (Go.Eng.HB.rows (Go.Sa.B.iFirmTable _))))]) (IT_laws_eqFirmTableS_ww_0_ok N) (by kernel_rfl) rfl ((e_laws_eqFirmTableS_ww N _ _ _ _ K).trans h)
  · cases h
/-! ### loop.example/g00038/laws.markDeviceS -/
abbrev sl_laws_markDeviceS_w : SlotT := [(0, ([0, 1, 5], [1]))]
abbrev J_laws_markDeviceS_w : JT := jn [] []
noncomputable def O_laws_markDeviceS_w (N : Nat) : Orc E := noFn
theorem O_laws_markDeviceS_w_ok (N : Nat) : OrcOk (O_laws_markDeviceS_w N) := noFn_ok
def s_laws_markDeviceS_w_0 (N : Nat) {R : Type} (b1 : Bool) (n1 : Int) (n2 : Int) (l1 : List Go.Sa.Device) (ag : Int → Int → (List Go.Sa.Device) → Option R)  (kN : Int → (List Go.Sa.Device) → Option R) : Option R :=
  (cond (decide ((n2 < (((List.length l1) : Nat) : Int))))
  (cond ((decide (((0 : Int) ≤ n2))) && (decide ((n2 < (((List.length l1) : Nat) : Int)))))
    (elemK l1 (Int.toNat n2) fun x =>
      (cond (Nat.blt (Int.toNat n2) (List.length l1))
      (cond ((decide (((0 : Int) ≤ n2))) && (decide ((n2 < (((List.length (Go.Eng.nset l1 (Int.toNat n2) (Go.Sa.Device.mk n1 (Go.Sa.Device.fPort x) (Go.Sa.Device.fLine x)))) : Nat) : Int)))))
        (elemK (Go.Eng.nset l1 (Int.toNat n2) (Go.Sa.Device.mk n1 (Go.Sa.Device.fPort x) (Go.Sa.Device.fLine x))) (Int.toNat n2) fun x1 =>
          (cond (Nat.blt (Int.toNat n2) (List.length (Go.Eng.nset l1 (Int.toNat n2) (Go.Sa.Device.mk n1 (Go.Sa.Device.fPort x) (Go.Sa.Device.fLine x)))))
          (cond ((decide (((0 : Int) ≤ n2))) && (decide ((n2 < (((List.length (Go.Eng.nset (Go.Eng.nset l1 (Int.toNat n2) (Go.Sa.Device.mk n1 (Go.Sa.Device.fPort x) (Go.Sa.Device.fLine x))) (Int.toNat n2) (Go.Sa.Device.mk (Go.Sa.Device.fKind x1) (Go.IntKind.wrap Go.IntKind.i64 (n1 + (1 : Int))) (Go.Sa.Device.fLine x1)))) : Nat) : Int)))))
            (elemK (Go.Eng.nset (Go.Eng.nset l1 (Int.toNat n2) (Go.Sa.Device.mk n1 (Go.Sa.Device.fPort x) (Go.Sa.Device.fLine x))) (Int.toNat n2) (Go.Sa.Device.mk (Go.Sa.Device.fKind x1) (Go.IntKind.wrap Go.IntKind.i64 (n1 + (1 : Int))) (Go.Sa.Device.fLine x1))) (Int.toNat n2) fun x2 =>
              (cond (Nat.blt (Int.toNat n2) (List.length (Go.Eng.nset (Go.Eng.nset l1 (Int.toNat n2) (Go.Sa.Device.mk n1 (Go.Sa.Device.fPort x) (Go.Sa.Device.fLine x))) (Int.toNat n2) (Go.Sa.Device.mk (Go.Sa.Device.fKind x1) (Go.IntKind.wrap Go.IntKind.i64 (n1 + (1 : Int))) (Go.Sa.Device.fLine x1)))))
              (ag (Go.IntKind.wrap Go.IntKind.i64 ((Go.IntKind.wrap Go.IntKind.i64 ((Go.IntKind.wrap Go.IntKind.i64 (n1 + (1 : Int))) + (1 : Int))) + (1 : Int))) (Go.IntKind.wrap Go.IntKind.i64 (n2 + (1 : Int))) (Go.Eng.nset (Go.Eng.nset (Go.Eng.nset l1 (Int.toNat n2) (Go.Sa.Device.mk n1 (Go.Sa.Device.fPort x) (Go.Sa.Device.fLine x))) (Int.toNat n2) (Go.Sa.Device.mk (Go.Sa.Device.fKind x1) (Go.IntKind.wrap Go.IntKind.i64 (n1 + (1 : Int))) (Go.Sa.Device.fLine x1))) (Int.toNat n2) (Go.Sa.Device.mk (Go.Sa.Device.fKind x2) (Go.Sa.Device.fPort x2) (Go.IntKind.wrap Go.IntKind.i64 ((Go.IntKind.wrap Go.IntKind.i64 (n1 + (1 : Int))) + (1 : Int))))))
              none))
            none)
          none))
        none)
      none))
    none)
  (kN n1 l1))
def l_laws_markDeviceS_w_0 (N : Nat) {R : Type} (b1 : Bool) (kN : Int → (List Go.Sa.Device) → Option R) : Nat → Int → Int → (List Go.Sa.Device) → Option R
  | 0, _, _, _ => none
  | f + 1, n1, n2, l1 => s_laws_markDeviceS_w_0 N b1 n1 n2 l1 (fun n1 n2 l1 => l_laws_markDeviceS_w_0 N b1 kN f n1 n2 l1)  kN
def c_laws_markDeviceS_w_0 (N : Nat) {R : Type} (b1 : Bool) (n1 : Int) (n2 : Int) (l1 : List Go.Sa.Device) (kN : Int → (List Go.Sa.Device) → Option R) : Option R := l_laws_markDeviceS_w_0 N b1 kN N n1 n2 l1
theorem se_laws_markDeviceS_w_0 (N : Nat) {R : Type} (b1 : Bool) (n1 : Int) (n2 : Int) (l1 : List Go.Sa.Device) (AG : List (Option AV) → Hp E → Option R) (KL : Ex → List (Option AV) → Hp E → Option R) :
    iterStep (E := E) (O_laws_markDeviceS_w N) (fun {R} => LI (noIt) 1 34 sl_laws_markDeviceS_w (R := R)) J_laws_markDeviceS_w 1 34 0 [0, 1, 5] [1] (body Go.Proofs.Try.f99 0) AG KL [(Option.some (Go.Eng.AV.sc (Go.Eng.SV.slc 0 Option.none b1))), (Option.some (Go.Eng.AV.sc (Go.Eng.SV.int Go.IntKind.i64 n1))), (Option.some (Go.Eng.AV.sc (Go.Eng.SV.int Go.IntKind.i64 n2)))] [(Option.some (Go.Eng.HE.mk Bool.false (Go.Eng.HB.rows (Go.Sa.B.iDevice l1))))] =
      s_laws_markDeviceS_w_0 N b1 n1 n2 l1 (fun n1 n2 l1 => AG [(Option.some (Go.Eng.AV.sc (Go.Eng.SV.slc 0 Option.none b1))), (Option.some (Go.Eng.AV.sc (Go.Eng.SV.int Go.IntKind.i64 n1))), (Option.some (Go.Eng.AV.sc (Go.Eng.SV.int Go.IntKind.i64 n2)))] [(Option.some (Go.Eng.HE.mk Bool.false (Go.Eng.HB.rows (Go.Sa.B.iDevice l1))))])  (fun n5 l4 => KL Go.Eng.Ex.normal [(Option.some (Go.Eng.AV.sc (Go.Eng.SV.int Go.IntKind.i64 n5)))] [(Option.some (Go.Eng.HE.mk Bool.false (Go.Eng.HB.rows (Go.Sa.B.iDevice l4))))]) := by kernel_rfl
theorem le_laws_markDeviceS_w_0 (N : Nat) {R : Type} (b1 : Bool) (KL : Ex → List (Option AV) → Hp E → Option R) : ∀ (f : Nat), ∀ (n1 : Int) (n2 : Int) (l1 : List Go.Sa.Device), iterK (E := E) (O_laws_markDeviceS_w N) (fun {R} => LI (noIt) 1 34 sl_laws_markDeviceS_w (R := R)) J_laws_markDeviceS_w 1 34 0 [0, 1, 5] [1] (body Go.Proofs.Try.f99 0) f [(Option.some (Go.Eng.AV.sc (Go.Eng.SV.slc 0 Option.none b1))), (Option.some (Go.Eng.AV.sc (Go.Eng.SV.int Go.IntKind.i64 n1))), (Option.some (Go.Eng.AV.sc (Go.Eng.SV.int Go.IntKind.i64 n2)))] [(Option.some (Go.Eng.HE.mk Bool.false (Go.Eng.HB.rows (Go.Sa.B.iDevice l1))))] KL = l_laws_markDeviceS_w_0 N b1 (fun n5 l4 => KL Go.Eng.Ex.normal [(Option.some (Go.Eng.AV.sc (Go.Eng.SV.int Go.IntKind.i64 n5)))] [(Option.some (Go.Eng.HE.mk Bool.false (Go.Eng.HB.rows (Go.Sa.B.iDevice l4))))]) f n1 n2 l1 := by
  intro f
  induction f with
  | zero => intros; rfl
  | succ f ih =>
    intro n1 n2 l1
    rw [iterK_succ, se_laws_markDeviceS_w_0]
    exact (congrArg (fun z0 => s_laws_markDeviceS_w_0 N b1 n1 n2 l1 z0 (fun n5 l4 => KL Go.Eng.Ex.normal [(Option.some (Go.Eng.AV.sc (Go.Eng.SV.int Go.IntKind.i64 n5)))] [(Option.some (Go.Eng.HE.mk Bool.false (Go.Eng.HB.rows (Go.Sa.B.iDevice l4))))])) (funext fun n1 => funext fun n2 => funext fun l1 => ih n1 n2 l1))
def i_laws_markDeviceS_w_0 (N : Nat) {R : Type} (vs : List (Option AV)) (H : Hp E) (KL : Ex → List (Option AV) → Hp E → Option R) : Option R :=
  match vs, H with
  | [(Option.some (Go.Eng.AV.sc (Go.Eng.SV.slc 0 Option.none b1))), (Option.some (Go.Eng.AV.sc (Go.Eng.SV.int Go.IntKind.i64 n1))), (Option.some (Go.Eng.AV.sc (Go.Eng.SV.int Go.IntKind.i64 n2)))], [(Option.some (Go.Eng.HE.mk Bool.false (Go.Eng.HB.rows (Go.Sa.B.iDevice l1))))] => c_laws_markDeviceS_w_0 N b1 n1 n2 l1 (fun n6 l5 => KL Go.Eng.Ex.normal [(Option.some (Go.Eng.AV.sc (Go.Eng.SV.int Go.IntKind.i64 n6)))] [(Option.some (Go.Eng.HE.mk Bool.false (Go.Eng.HB.rows (Go.Sa.B.iDevice l5))))])
  | _, _ => none
noncomputable def IT_laws_markDeviceS_w_0 (N : Nat) : Its E := addIt 0 (i_laws_markDeviceS_w_0 N) (noIt)
theorem IT_laws_markDeviceS_w_0_ok (N : Nat) : ItOk (IT_laws_markDeviceS_w_0 N) 1 34 sl_laws_markDeviceS_w (lsB Go.Proofs.Try.f99 [0]) :=
  addItB_ok (inner := []) ok (O_laws_markDeviceS_w_ok N) (jn_ok _ _) (noIt_ok) rfl (by kernel_rfl) rfl fun vs H KL r h => by
    unfold i_laws_markDeviceS_w_0 at h
    split at h
    · exact ⟨_, (le_laws_markDeviceS_w_0 N _ KL N _ _ _).trans h⟩
    · cases h
def g_laws_markDeviceS_w (N : Nat) {R : Type} (b : Bool) (n : Int) (l : List Go.Sa.Device) (k : Int → (List Go.Sa.Device) → Option R) : Option R :=
  (c_laws_markDeviceS_w_0 N b n (0 : Int) l fun n3 l2 =>
  (k n3 l2))
theorem e_laws_markDeviceS_w (N : Nat) {R : Type} (b : Bool) (n : Int) (l : List Go.Sa.Device) (K : AV → Hp E → Option R) :
    runFnI (E := E) (O_laws_markDeviceS_w N) (IT_laws_markDeviceS_w_0 N) sl_laws_markDeviceS_w J_laws_markDeviceS_w Go.Proofs.Try.f99 [(Go.Eng.AV.sc (Go.Eng.SV.slc 0 Option.none b)), (Go.Eng.AV.sc (Go.Eng.SV.int Go.IntKind.i64 n))] [(Option.some (Go.Eng.HE.mk Bool.false (Go.Eng.HB.rows (Go.Sa.B.iDevice l))))] K =
      g_laws_markDeviceS_w N b n l (fun n4 l3 => K (Go.Eng.AV.sc (Go.Eng.SV.int Go.IntKind.i64 n4)) [(Option.some (Go.Eng.HE.mk Bool.false (Go.Eng.HB.rows (Go.Sa.B.iDevice l3))))]) := by kernel_rfl
def o_laws_markDeviceS_w (N : Nat) {R : Type} (args : List AV) (H : Hp E) (K : AV → Hp E → Option R) : Option R :=
  match args, H with
  | [(Go.Eng.AV.sc (Go.Eng.SV.slc 0 Option.none b)), (Go.Eng.AV.sc (Go.Eng.SV.int Go.IntKind.i64 n))], [(Option.some (Go.Eng.HE.mk Bool.false (Go.Eng.HB.rows (Go.Sa.B.iDevice l))))] => g_laws_markDeviceS_w N b n l (fun n4 l3 => K (Go.Eng.AV.sc (Go.Eng.SV.int Go.IntKind.i64 n4)) [(Option.some (Go.Eng.HE.mk Bool.false (Go.Eng.HB.rows (Go.Sa.B.iDevice l3))))])
  | _, _ => none
theorem o_laws_markDeviceS_w_ok (N : Nat) : FnOk E 99 (o_laws_markDeviceS_w N) := by
  intro R args H K r h
  unfold o_laws_markDeviceS_w at h
  dsimp only at h
  split at h
  · exact fnB_ok (ids := [0]) (top := [0]) ok (O_laws_markDeviceS_w_ok N) (jn_ok _ _) Go.Proofs.Try.func99 (by kernel_rfl) (IT := IT_laws_markDeviceS_w_0 N) (sl := sl_laws_markDeviceS_w) (J := J_laws_markDeviceS_w) (K := K) (H := [(Option.some (Go.Eng.HE.mk Bool.false (Go.Eng.HB.rows (Go.Sa.B.iDevice _))))]) (IT_laws_markDeviceS_w_0_ok N) (by kernel_rfl) rfl ((e_laws_markDeviceS_w N _ _ _ K).trans h)
  · cases h
/-! ### loop.example/g00038/laws.markBoard -/
abbrev sl_laws_markBoard_w : SlotT := []
abbrev J_laws_markBoard_w : JT := jn [] []
noncomputable def O_laws_markBoard_w (N : Nat) : Orc E := addFn 99 (o_laws_markDeviceS_w N) (noFn)
theorem O_laws_markBoard_w_ok (N : Nat) : OrcOk (O_laws_markBoard_w N) := addFn_ok (o_laws_markDeviceS_w_ok N) (noFn_ok)
def g_laws_markBoard_w (N : Nat) {R : Type} (n : Int) (n1 : Int) (b : Bool) (n2 : Int) (l : List Go.Sa.Device) (k : Int → (List Go.Sa.Device) → Option R) : Option R :=
  (g_laws_markDeviceS_w N b n2 l fun n3 l1 =>
  (k n3 l1))
theorem e_laws_markBoard_w (N : Nat) {R : Type} (n : Int) (n1 : Int) (b : Bool) (n2 : Int) (l : List Go.Sa.Device) (K : AV → Hp E → Option R) :
    runFnI (E := E) (O_laws_markBoard_w N) (noIt) sl_laws_markBoard_w J_laws_markBoard_w Go.Proofs.Try.f50 [(Go.Eng.AV.agg [(Go.Eng.SV.int Go.IntKind.i64 n), (Go.Eng.SV.int Go.IntKind.i64 n1), (Go.Eng.SV.slc 0 Option.none b)]), (Go.Eng.AV.sc (Go.Eng.SV.int Go.IntKind.i64 n2))] [(Option.some (Go.Eng.HE.mk Bool.false (Go.Eng.HB.rows (Go.Sa.B.iDevice l))))] K =
      g_laws_markBoard_w N n n1 b n2 l (fun n4 l2 => K (Go.Eng.AV.sc (Go.Eng.SV.int Go.IntKind.i64 n4)) [(Option.some (Go.Eng.HE.mk Bool.false (Go.Eng.HB.rows (Go.Sa.B.iDevice l2))))]) := by kernel_rfl
def o_laws_markBoard_w (N : Nat) {R : Type} (args : List AV) (H : Hp E) (K : AV → Hp E → Option R) : Option R :=
  match args, H with
  | [(Go.Eng.AV.agg [(Go.Eng.SV.int Go.IntKind.i64 n), (Go.Eng.SV.int Go.IntKind.i64 n1), (Go.Eng.SV.slc 0 Option.none b)]), (Go.Eng.AV.sc (Go.Eng.SV.int Go.IntKind.i64 n2))], [(Option.some (Go.Eng.HE.mk Bool.false (Go.Eng.HB.rows (Go.Sa.B.iDevice l))))] => g_laws_markBoard_w N n n1 b n2 l (fun n4 l2 => K (Go.Eng.AV.sc (Go.Eng.SV.int Go.IntKind.i64 n4)) [(Option.some (Go.Eng.HE.mk Bool.false (Go.Eng.HB.rows (Go.Sa.B.iDevice l2))))])
  | _, _ => none
theorem o_laws_markBoard_w_ok (N : Nat) : FnOk E 50 (o_laws_markBoard_w N) := by
  intro R args H K r h
  unfold o_laws_markBoard_w at h
  dsimp only at h
  split at h
  · exact fnB_ok (ids := []) (top := []) ok (O_laws_markBoard_w_ok N) (jn_ok _ _) Go.Proofs.Try.func50 (by kernel_rfl) (IT := noIt) (sl := sl_laws_markBoard_w) (J := J_laws_markBoard_w) (K := K) (H := [(Option.some (Go.Eng.HE.mk Bool.false (Go.Eng.HB.rows (Go.Sa.B.iDevice _))))]) (noIt_ok) (by kernel_rfl) rfl ((e_laws_markBoard_w N _ _ _ _ _ K).trans h)
  · cases h
/-! ### loop.example/g00038/laws.eqFirmTableS -/
abbrev sl_laws_eqFirmTableS_rr : SlotT := [(0, ([0, 1, 5], [4]))]
abbrev J_laws_eqFirmTableS_rr : JT := jn [] []
noncomputable def O_laws_eqFirmTableS_rr (N : Nat) : Orc E := addFn 98 (o_laws_eqFirmTable N) (noFn)
theorem O_laws_eqFirmTableS_rr_ok (N : Nat) : OrcOk (O_laws_eqFirmTableS_rr N) := addFn_ok (o_laws_eqFirmTable_ok N) (noFn_ok)
def s_laws_eqFirmTableS_rr_0 (N : Nat) {R : Type} (b2 : Bool) (b3 : Bool) (l2 : List Go.Sa.FirmTable) (l3 : List Go.Sa.FirmTable) (n : Int) (ag : Int → Option R)  (kR : Option R) (kN : Option R) : Option R :=
  (cond (decide ((n < (((List.length l2) : Nat) : Int))))
  (cond ((decide (((0 : Int) ≤ n))) && (decide ((n < (((List.length l2) : Nat) : Int)))))
    (elemK l2 (Int.toNat n) fun x =>
      (cond ((decide (((0 : Int) ≤ n))) && (decide ((n < (((List.length l3) : Nat) : Int)))))
      (elemK l3 (Int.toNat n) fun x1 =>
        (g_laws_eqFirmTable N (Go.Sa.FirmTable.fName x) (Go.Sa.FirmTable.fRev x) (Go.Sa.FirmTable.fBody x) (Go.Sa.FirmTable.fName x1) (Go.Sa.FirmTable.fRev x1) (Go.Sa.FirmTable.fBody x1) fun b4 =>
        (cond (!b4)
        kR
        (ag (Go.IntKind.wrap Go.IntKind.i64 (n + (1 : Int)))))))
      none))
    none)
  kN)
def l_laws_eqFirmTableS_rr_0 (N : Nat) {R : Type} (b2 : Bool) (b3 : Bool) (l2 : List Go.Sa.FirmTable) (l3 : List Go.Sa.FirmTable) (kR : Option R) (kN : Option R) : Nat → Int → Option R
  | 0, _ => none
  | f + 1, n => s_laws_eqFirmTableS_rr_0 N b2 b3 l2 l3 n (fun n => l_laws_eqFirmTableS_rr_0 N b2 b3 l2 l3 kR kN f n)  kR kN
def c_laws_eqFirmTableS_rr_0 (N : Nat) {R : Type} (b2 : Bool) (b3 : Bool) (l2 : List Go.Sa.FirmTable) (l3 : List Go.Sa.FirmTable) (n : Int) (kR : Option R) (kN : Option R) : Option R := l_laws_eqFirmTableS_rr_0 N b2 b3 l2 l3 kR kN N n
theorem se_laws_eqFirmTableS_rr_0 (N : Nat) {R : Type} (b2 : Bool) (b3 : Bool) (l2 : List Go.Sa.FirmTable) (l3 : List Go.Sa.FirmTable) (n : Int) (AG : List (Option AV) → Hp E → Option R) (KL : Ex → List (Option AV) → Hp E → Option R) :
    iterStep (E := E) (O_laws_eqFirmTableS_rr N) (fun {R} => LI (noIt) 2 27 sl_laws_eqFirmTableS_rr (R := R)) J_laws_eqFirmTableS_rr 2 27 0 [0, 1, 5] [4] (body Go.Proofs.Try.f49 0) AG KL [(Option.some (Go.Eng.AV.sc (Go.Eng.SV.slc 0 Option.none b2))), (Option.some (Go.Eng.AV.sc (Go.Eng.SV.slc 1 Option.none b3))), (Option.some (Go.Eng.AV.sc (Go.Eng.SV.int Go.IntKind.i64 n)))] [(Option.some (Go.Eng.HE.mk Bool.true (Go.Eng.HB.rows (Go.Sa.B.iFirmTable l2)))), (Option.some (Go.Eng.HE.mk Bool.true (Go.Eng.HB.rows (Go.Sa.B.iFirmTable l3))))] =
      s_laws_eqFirmTableS_rr_0 N b2 b3 l2 l3 n (fun n => AG [(Option.some (Go.Eng.AV.sc (Go.Eng.SV.slc 0 Option.none b2))), (Option.some (Go.Eng.AV.sc (Go.Eng.SV.slc 1 Option.none b3))), (Option.some (Go.Eng.AV.sc (Go.Eng.SV.int Go.IntKind.i64 n)))] [(Option.some (Go.Eng.HE.mk Bool.true (Go.Eng.HB.rows (Go.Sa.B.iFirmTable l2)))), (Option.some (Go.Eng.HE.mk Bool.true (Go.Eng.HB.rows (Go.Sa.B.iFirmTable l3))))])  (KL Go.Eng.Ex.ret [(Option.some (Go.Eng.AV.sc (Go.Eng.SV.bool Bool.false)))] [(Option.some (Go.Eng.HE.mk Bool.true (Go.Eng.HB.rows (Go.Sa.B.iFirmTable l2)))), (Option.some (Go.Eng.HE.mk Bool.true (Go.Eng.HB.rows (Go.Sa.B.iFirmTable l3))))]) (KL Go.Eng.Ex.normal [Option.none] [(Option.some (Go.Eng.HE.mk Bool.true (Go.Eng.HB.rows (Go.Sa.B.iFirmTable l2)))), (Option.some (Go.Eng.HE.mk Bool.true (Go.Eng.HB.rows (Go.Sa.B.iFirmTable l3))))]) := by kernel_rfl
theorem le_laws_eqFirmTableS_rr_0 (N : Nat) {R : Type} (b2 : Bool) (b3 : Bool) (l2 : List Go.Sa.FirmTable) (l3 : List Go.Sa.FirmTable) (KL : Ex → List (Option AV) → Hp E → Option R) : ∀ (f : Nat), ∀ (n : Int), iterK (E := E) (O_laws_eqFirmTableS_rr N) (fun {R} => LI (noIt) 2 27 sl_laws_eqFirmTableS_rr (R := R)) J_laws_eqFirmTableS_rr 2 27 0 [0, 1, 5] [4] (body Go.Proofs.Try.f49 0) f [(Option.some (Go.Eng.AV.sc (Go.Eng.SV.slc 0 Option.none b2))), (Option.some (Go.Eng.AV.sc (Go.Eng.SV.slc 1 Option.none b3))), (Option.some (Go.Eng.AV.sc (Go.Eng.SV.int Go.IntKind.i64 n)))] [(Option.some (Go.Eng.HE.mk Bool.true (Go.Eng.HB.rows (Go.Sa.B.iFirmTable l2)))), (Option.some (Go.Eng.HE.mk Bool.true (Go.Eng.HB.rows (Go.Sa.B.iFirmTable l3))))] KL = l_laws_eqFirmTableS_rr_0 N b2 b3 l2 l3 (KL Go.Eng.Ex.ret [(Option.some (Go.Eng.AV.sc (Go.Eng.SV.bool Bool.false)))] [(Option.some (Go.Eng.HE.mk Bool.true (Go.Eng.HB.rows (Go.Sa.B.iFirmTable l2)))), (Option.some (Go.Eng.HE.mk Bool.true (Go.Eng.HB.rows (Go.Sa.B.iFirmTable l3))))]) (KL Go.Eng.Ex.normal [Option.none] [(Option.some (Go.Eng.HE.mk Bool.true (Go.Eng.HB.rows (Go.Sa.B.iFirmTable l2)))), (Option.some (Go.Eng.HE.mk Bool.true (Go.Eng.HB.rows (Go.Sa.B.iFirmTable l3))))]) f n := by
  intro f
  induction f with
  | zero => intros; rfl
  | succ f ih =>
    intro n
    rw [iterK_succ, se_laws_eqFirmTableS_rr_0]
    exact (congrArg (fun z0 => s_laws_eqFirmTableS_rr_0 N b2 b3 l2 l3 n z0 (KL Go.Eng.Ex.ret [(Option.some (Go.Eng.AV.sc (Go.Eng.SV.bool Bool.false)))] [(Option.some (Go.Eng.HE.mk Bool.true (Go.Eng.HB.rows (Go.Sa.B.iFirmTable l2)))), (Option.some (Go.Eng.HE.mk Bool.true (Go.Eng.HB.rows (Go.Sa.B.iFirmTable l3))))]) (KL Go.Eng.Ex.normal [Option.none] [(Option.some (Go.Eng.HE.mk Bool.true (Go.Eng.HB.rows (Go.Sa.B.iFirmTable l2)))), (Option.some (Go.Eng.HE.mk Bool.true (Go.Eng.HB.rows (Go.Sa.B.iFirmTable l3))))])) (funext fun n => ih n))
def i_laws_eqFirmTableS_rr_0 (N : Nat) {R : Type} (vs : List (Option AV)) (H : Hp E) (KL : Ex → List (Option AV) → Hp E → Option R) : Option R :=
  match vs, H with
  | [(Option.some (Go.Eng.AV.sc (Go.Eng.SV.slc 0 Option.none b2))), (Option.some (Go.Eng.AV.sc (Go.Eng.SV.slc 1 Option.none b3))), (Option.some (Go.Eng.AV.sc (Go.Eng.SV.int Go.IntKind.i64 n)))], [(Option.some (Go.Eng.HE.mk Bool.true (Go.Eng.HB.rows (Go.Sa.B.iFirmTable l2)))), (Option.some (Go.Eng.HE.mk Bool.true (Go.Eng.HB.rows (Go.Sa.B.iFirmTable l3))))] => c_laws_eqFirmTableS_rr_0 N b2 b3 l2 l3 n (KL Go.Eng.Ex.ret [(Option.some (Go.Eng.AV.sc (Go.Eng.SV.bool Bool.false)))] [(Option.some (Go.Eng.HE.mk Bool.true (Go.Eng.HB.rows (Go.Sa.B.iFirmTable l2)))), (Option.some (Go.Eng.HE.mk Bool.true (Go.Eng.HB.rows (Go.Sa.B.iFirmTable l3))))]) (KL Go.Eng.Ex.normal [Option.none] [(Option.some (Go.Eng.HE.mk Bool.true (Go.Eng.HB.rows (Go.Sa.B.iFirmTable l2)))), (Option.some (Go.Eng.HE.mk Bool.true (Go.Eng.HB.rows (Go.Sa.B.iFirmTable l3))))])
  | _, _ => none
noncomputable def IT_laws_eqFirmTableS_rr_0 (N : Nat) : Its E := addIt 0 (i_laws_eqFirmTableS_rr_0 N) (noIt)
theorem IT_laws_eqFirmTableS_rr_0_ok (N : Nat) : ItOk (IT_laws_eqFirmTableS_rr_0 N) 2 27 sl_laws_eqFirmTableS_rr (lsB Go.Proofs.Try.f49 [0]) :=
  addItB_ok (inner := []) ok (O_laws_eqFirmTableS_rr_ok N) (jn_ok _ _) (noIt_ok) rfl (by kernel_rfl) rfl fun vs H KL r h => by
    unfold i_laws_eqFirmTableS_rr_0 at h
    split at h
    · exact ⟨_, (le_laws_eqFirmTableS_rr_0 N _ _ _ _ KL N _).trans h⟩
    · cases h
def g_laws_eqFirmTableS_rr (N : Nat) {R : Type} (b : Bool) (b1 : Bool) (l : List Go.Sa.FirmTable) (l1 : List Go.Sa.FirmTable) (k : Bool → Option R) : Option R :=
  (cond ((((List.length l) : Nat) : Int) != (((List.length l1) : Nat) : Int))
  (k Bool.false)
  (c_laws_eqFirmTableS_rr_0 N b b1 l l1 (0 : Int) (
    (k Bool.false)) (
    (k Bool.true))))
theorem e_laws_eqFirmTableS_rr (N : Nat) {R : Type} (b : Bool) (b1 : Bool) (l : List Go.Sa.FirmTable) (l1 : List Go.Sa.FirmTable) (K : AV → Hp E → Option R) :
    runFnI (E := E) (O_laws_eqFirmTableS_rr N) (IT_laws_eqFirmTableS_rr_0 N) sl_laws_eqFirmTableS_rr J_laws_eqFirmTableS_rr Go.Proofs.Try.f49 [(Go.Eng.AV.sc (Go.Eng.SV.slc 0 Option.none b)), (Go.Eng.AV.sc (Go.Eng.SV.slc 1 Option.none b1))] [(Option.some (Go.Eng.HE.mk Bool.true (Go.Eng.HB.rows (Go.Sa.B.iFirmTable l)))), (Option.some (Go.Eng.HE.mk Bool.true (Go.Eng.HB.rows (Go.Sa.B.iFirmTable l1))))] K =
      g_laws_eqFirmTableS_rr N b b1 l l1 (fun b5 => K (Go.Eng.AV.sc (Go.Eng.SV.bool b5)) [(Option.some (Go.Eng.HE.mk Bool.true (Go.Eng.HB.rows (Go.Sa.B.iFirmTable l)))), (Option.some (Go.Eng.HE.mk Bool.true (Go.Eng.HB.rows (Go.Sa.B.iFirmTable l1))))]) := by kernel_rfl
def o_laws_eqFirmTableS_rr (N : Nat) {R : Type} (args : List AV) (H : Hp E) (K : AV → Hp E → Option R) : Option R :=
  match args, H with
  | [(Go.Eng.AV.sc (Go.Eng.SV.slc 0 Option.none b)), (Go.Eng.AV.sc (Go.Eng.SV.slc 1 Option.none b1))], [(Option.some (Go.Eng.HE.mk Bool.true (Go.Eng.HB.rows (Go.Sa.B.iFirmTable l)))), (Option.some (Go.Eng.HE.mk Bool.true (Go.Eng.HB.rows (Go.Sa.B.iFirmTable l1))))] => g_laws_eqFirmTableS_rr N b b1 l l1 (fun b5 => K (Go.Eng.AV.sc (Go.Eng.SV.bool b5)) [(Option.some (Go.Eng.HE.mk Bool.true (Go.Eng.HB.rows (Go.Sa.B.iFirmTable l)))), (Option.some (Go.Eng.HE.mk Bool.true (Go.Eng.HB.rows (Go.Sa.B.iFirmTable l1))))])
  | _, _ => none
theorem o_laws_eqFirmTableS_rr_ok (N : Nat) : FnOk E 49 (o_laws_eqFirmTableS_rr N) := by
  intro R args H K r h
  unfold o_laws_eqFirmTableS_rr at h
  dsimp only at h
  split at h
  · exact fnB_ok (ids := [0]) (top := [0]) ok (O_laws_eqFirmTableS_rr_ok N) (jn_ok _ _) Go.Proofs.Try.func49 (by kernel_rfl) (IT := IT_laws_eqFirmTableS_rr_0 N) (sl := sl_laws_eqFirmTableS_rr) (J := J_laws_eqFirmTableS_rr) (K := K) (H := [(Option.some (Go.Eng.HE.mk Bool.true (Go.Eng.HB.rows (Go.Sa.B.iFirmTable _)))), (Option.some (Go.Eng.HE.mk Bool.true (Go.Eng.HB.rows (Go.Sa.B.iFirmTable _))))]) (IT_laws_eqFirmTableS_rr_0_ok N) (by kernel_rfl) rfl ((e_laws_eqFirmTableS_rr N _ _ _ _ K).trans h)
  · cases h
/-! ### loop.example/g00038/laws.markText -/
abbrev sl_laws_markText : SlotT := [(0, ([0, 3], [3]))]
abbrev J_laws_markText : JT := jn [] []
noncomputable def O_laws_markText (N : Nat) : Orc E := noFn
theorem O_laws_markText_ok (N : Nat) : OrcOk (O_laws_markText N) := noFn_ok
def s_laws_markText_0 (N : Nat) {R : Type}  (n1 : Int) (s : ByteArray) (ag : Int → ByteArray → Option R)  (kN : ByteArray → Option R) : Option R :=
  (cond (decide ((n1 > (0 : Int))))
  (cond (Nat.ble ((ByteArray.size (Go.Eng.toBytes (Go.Eng.seg [(Go.IntKind.wrap Go.IntKind.u8 (Go.IntKind.wrap Go.IntKind.i64 ((48 : Int) + (Int.tmod n1 (10 : Int)))))] 0 (List.length [(Go.IntKind.wrap Go.IntKind.u8 (Go.IntKind.wrap Go.IntKind.i64 ((48 : Int) + (Int.tmod n1 (10 : Int)))))])))) + (ByteArray.size s)) 9223372036854775807)
    (ag (Go.IntKind.wrap Go.IntKind.i64 (Int.tdiv n1 (10 : Int))) ((Go.Eng.toBytes (Go.Eng.seg [(Go.IntKind.wrap Go.IntKind.u8 (Go.IntKind.wrap Go.IntKind.i64 ((48 : Int) + (Int.tmod n1 (10 : Int)))))] 0 (List.length [(Go.IntKind.wrap Go.IntKind.u8 (Go.IntKind.wrap Go.IntKind.i64 ((48 : Int) + (Int.tmod n1 (10 : Int)))))]))) ++ s))
    none)
  (kN s))
def l_laws_markText_0 (N : Nat) {R : Type}  (kN : ByteArray → Option R) : Nat → Int → ByteArray → Option R
  | 0, _, _ => none
  | f + 1, n1, s => s_laws_markText_0 N  n1 s (fun n1 s => l_laws_markText_0 N  kN f n1 s)  kN
def c_laws_markText_0 (N : Nat) {R : Type}  (n1 : Int) (s : ByteArray) (kN : ByteArray → Option R) : Option R := l_laws_markText_0 N  kN N n1 s
theorem se_laws_markText_0 (N : Nat) {R : Type}  (n1 : Int) (s : ByteArray) (AG : List (Option AV) → Hp E → Option R) (KL : Ex → List (Option AV) → Hp E → Option R) :
    iterStep (E := E) (O_laws_markText N) (fun {R} => LI (noIt) 0 20 sl_laws_markText (R := R)) J_laws_markText 0 20 0 [0, 3] [3] (body Go.Proofs.Try.f100 0) AG KL [(Option.some (Go.Eng.AV.sc (Go.Eng.SV.int Go.IntKind.i64 n1))), (Option.some (Go.Eng.AV.sc (Go.Eng.SV.str s)))] [] =
      s_laws_markText_0 N  n1 s (fun n1 s => AG [(Option.some (Go.Eng.AV.sc (Go.Eng.SV.int Go.IntKind.i64 n1))), (Option.some (Go.Eng.AV.sc (Go.Eng.SV.str s)))] [])  (fun s3 => KL Go.Eng.Ex.normal [(Option.some (Go.Eng.AV.sc (Go.Eng.SV.str s3)))] []) := by kernel_rfl
theorem le_laws_markText_0 (N : Nat) {R : Type}  (KL : Ex → List (Option AV) → Hp E → Option R) : ∀ (f : Nat), ∀ (n1 : Int) (s : ByteArray), iterK (E := E) (O_laws_markText N) (fun {R} => LI (noIt) 0 20 sl_laws_markText (R := R)) J_laws_markText 0 20 0 [0, 3] [3] (body Go.Proofs.Try.f100 0) f [(Option.some (Go.Eng.AV.sc (Go.Eng.SV.int Go.IntKind.i64 n1))), (Option.some (Go.Eng.AV.sc (Go.Eng.SV.str s)))] [] KL = l_laws_markText_0 N  (fun s3 => KL Go.Eng.Ex.normal [(Option.some (Go.Eng.AV.sc (Go.Eng.SV.str s3)))] []) f n1 s := by
  intro f
  induction f with
  | zero => intros; rfl
  | succ f ih =>
    intro n1 s
    rw [iterK_succ, se_laws_markText_0]
    exact (congrArg (fun z0 => s_laws_markText_0 N  n1 s z0 (fun s3 => KL Go.Eng.Ex.normal [(Option.some (Go.Eng.AV.sc (Go.Eng.SV.str s3)))] [])) (funext fun n1 => funext fun s => ih n1 s))
def i_laws_markText_0 (N : Nat) {R : Type} (vs : List (Option AV)) (H : Hp E) (KL : Ex → List (Option AV) → Hp E → Option R) : Option R :=
  match vs, H with
  | [(Option.some (Go.Eng.AV.sc (Go.Eng.SV.int Go.IntKind.i64 n1))), (Option.some (Go.Eng.AV.sc (Go.Eng.SV.str s)))], [] => c_laws_markText_0 N  n1 s (fun s4 => KL Go.Eng.Ex.normal [(Option.some (Go.Eng.AV.sc (Go.Eng.SV.str s4)))] [])
  | _, _ => none
noncomputable def IT_laws_markText_0 (N : Nat) : Its E := addIt 0 (i_laws_markText_0 N) (noIt)
theorem IT_laws_markText_0_ok (N : Nat) : ItOk (IT_laws_markText_0 N) 0 20 sl_laws_markText (lsB Go.Proofs.Try.f100 [0]) :=
  addItB_ok (inner := []) ok (O_laws_markText_ok N) (jn_ok _ _) (noIt_ok) rfl (by kernel_rfl) rfl fun vs H KL r h => by
    unfold i_laws_markText_0 at h
    split at h
    · exact ⟨_, (le_laws_markText_0 N KL N _ _).trans h⟩
    · cases h
def g_laws_markText (N : Nat) {R : Type} (n : Int) (k : ByteArray → Option R) : Option R :=
  (cond (decide ((n ≤ (0 : Int))))
  (k (ByteArray.mk (List.toArray [(109 : UInt8), (48 : UInt8)])))
  (c_laws_markText_0 N n (ByteArray.mk (List.toArray [])) fun s1 =>
    (cond (Nat.ble (1 + (ByteArray.size s1)) 9223372036854775807)
    (k ((ByteArray.mk (List.toArray [(109 : UInt8)])) ++ s1))
    none)))
theorem e_laws_markText (N : Nat) {R : Type} (n : Int) (K : AV → Hp E → Option R) :
    runFnI (E := E) (O_laws_markText N) (IT_laws_markText_0 N) sl_laws_markText J_laws_markText Go.Proofs.Try.f100 [(Go.Eng.AV.sc (Go.Eng.SV.int Go.IntKind.i64 n))] [] K =
      g_laws_markText N n (fun s2 => K (Go.Eng.AV.sc (Go.Eng.SV.str s2)) []) := by kernel_rfl
def o_laws_markText (N : Nat) {R : Type} (args : List AV) (H : Hp E) (K : AV → Hp E → Option R) : Option R :=
  match args, H with
  | [(Go.Eng.AV.sc (Go.Eng.SV.int Go.IntKind.i64 n))], [] => g_laws_markText N n (fun s2 => K (Go.Eng.AV.sc (Go.Eng.SV.str s2)) [])
  | _, _ => none
theorem o_laws_markText_ok (N : Nat) : FnOk E 100 (o_laws_markText N) := by
  intro R args H K r h
  unfold o_laws_markText at h
  dsimp only at h
  split at h
  · exact fnB_ok (ids := [0]) (top := [0]) ok (O_laws_markText_ok N) (jn_ok _ _) Go.Proofs.Try.func100 (by kernel_rfl) (IT := IT_laws_markText_0 N) (sl := sl_laws_markText) (J := J_laws_markText) (K := K) (H := []) (IT_laws_markText_0_ok N) (by kernel_rfl) rfl ((e_laws_markText N _ K).trans h)
  · cases h
end Go.Sa
