import Derived.Test.YtaffhdhamfilpaaSpec
import Derived.Test.YtaffhdhamfilpaaPLb
set_option linter.all false
namespace Go.Sa
open Go Go.Eng Go.Proofs
set_option maxRecDepth 100000
set_option maxHeartbeats 4000000
theorem castPr {p q : Prop} (e : p = q) (h : p) : q := e ▸ h
/-! ### loop.example/g00038/laws.szDeviceS -/
abbrev sl_laws_szDeviceS_r : SlotT := []
abbrev J_laws_szDeviceS_r : JT := jn [] [] []
noncomputable def O_laws_szDeviceS_r (N : Nat) : Orc E := noFn
theorem O_laws_szDeviceS_r_ok (N : Nat) : OrcOk (O_laws_szDeviceS_r N) := noFn_ok
noncomputable def g_laws_szDeviceS_r (N : Nat) {R : Type} (b : Bool) (n : Int) (l : List Device) (k : Int → Option R) : Option R :=
  (cond (decide (((IntKind.wrap IntKind.i64 (n - (((List.length l) : Nat) : Int))) < (0 : Int))))
  (k (-(1 : Int)))
  (k (IntKind.wrap IntKind.i64 (n - (((List.length l) : Nat) : Int)))))
theorem e_laws_szDeviceS_r (N : Nat) {R : Type} (b : Bool) (n : Int) (l : List Device) (K : AV → Hp E → Option R) :
    runFnI (E := E) (O_laws_szDeviceS_r N) (noIt) sl_laws_szDeviceS_r J_laws_szDeviceS_r Go.Proofs.Try.f50 [(AV.sc (SV.slc 0 none b)), (AV.sc (SV.int IntKind.i64 n))] [(some (HE.mk true (HB.rows (B.lDevice l))))] K =
      g_laws_szDeviceS_r N b n l (fun n1 => K (AV.sc (SV.int IntKind.i64 n1)) [(some (HE.mk true (HB.rows (B.lDevice l))))]) := by kernel_rfl
noncomputable def o_laws_szDeviceS_r (N : Nat) {R : Type} (args : List AV) (H : Hp E) (K : AV → Hp E → Option R) : Option R :=
  match args, H with
  | [(AV.sc (SV.slc 0 none b)), (AV.sc (SV.int IntKind.i64 n))], [(some (HE.mk true (HB.rows (B.lDevice l))))] => g_laws_szDeviceS_r N b n l (fun n1 => K (AV.sc (SV.int IntKind.i64 n1)) [(some (HE.mk true (HB.rows (B.lDevice l))))])
  | _, _ => none
theorem o_laws_szDeviceS_r_ok (N : Nat) : FnOk E 50 (o_laws_szDeviceS_r N) := by
  intro R args H K r h
  unfold o_laws_szDeviceS_r at h
  dsimp only at h
  split at h
  · exact fnB_ok (ids := []) (top := []) ok (O_laws_szDeviceS_r_ok N) (jn_ok _ _ _) Go.Proofs.Try.func50 (by kernel_rfl) (IT := noIt) (sl := sl_laws_szDeviceS_r) (J := J_laws_szDeviceS_r) (K := K) (H := [(some (HE.mk true (HB.rows (B.lDevice _))))]) (noIt_ok) (by kernel_rfl) rfl ((e_laws_szDeviceS_r N _ _ _ K).trans h)
  · cases h
/-! ### loop.example/g00038/laws.szBoard -/
abbrev sl_laws_szBoard_r : SlotT := []
abbrev J_laws_szBoard_r : JT := jn [] [] []
noncomputable def O_laws_szBoard_r (N : Nat) : Orc E := addFn 50 (o_laws_szDeviceS_r N) (noFn)
theorem O_laws_szBoard_r_ok (N : Nat) : OrcOk (O_laws_szBoard_r N) := addFn_ok (o_laws_szDeviceS_r_ok N) (noFn_ok)
noncomputable def g_laws_szBoard_r (N : Nat) {R : Type} (n : Int) (n1 : Int) (b : Bool) (n2 : Int) (l : List Device) (k : Int → Option R) : Option R :=
  (g_laws_szDeviceS_r N b n2 l fun n3 =>
  (cond (decide ((n3 < (0 : Int))))
  (k (-(1 : Int)))
  (k n3)))
theorem e_laws_szBoard_r (N : Nat) {R : Type} (n : Int) (n1 : Int) (b : Bool) (n2 : Int) (l : List Device) (K : AV → Hp E → Option R) :
    runFnI (E := E) (O_laws_szBoard_r N) (noIt) sl_laws_szBoard_r J_laws_szBoard_r Go.Proofs.Try.f13 [(AV.agg [(SV.int IntKind.i64 n), (SV.int IntKind.i64 n1), (SV.slc 0 none b)]), (AV.sc (SV.int IntKind.i64 n2))] [(some (HE.mk true (HB.rows (B.lDevice l))))] K =
      g_laws_szBoard_r N n n1 b n2 l (fun n4 => K (AV.sc (SV.int IntKind.i64 n4)) [(some (HE.mk true (HB.rows (B.lDevice l))))]) := by kernel_rfl
noncomputable def o_laws_szBoard_r (N : Nat) {R : Type} (args : List AV) (H : Hp E) (K : AV → Hp E → Option R) : Option R :=
  match args, H with
  | [(AV.agg [(SV.int IntKind.i64 n), (SV.int IntKind.i64 n1), (SV.slc 0 none b)]), (AV.sc (SV.int IntKind.i64 n2))], [(some (HE.mk true (HB.rows (B.lDevice l))))] => g_laws_szBoard_r N n n1 b n2 l (fun n4 => K (AV.sc (SV.int IntKind.i64 n4)) [(some (HE.mk true (HB.rows (B.lDevice l))))])
  | _, _ => none
theorem o_laws_szBoard_r_ok (N : Nat) : FnOk E 13 (o_laws_szBoard_r N) := by
  intro R args H K r h
  unfold o_laws_szBoard_r at h
  dsimp only at h
  split at h
  · exact fnB_ok (ids := []) (top := []) ok (O_laws_szBoard_r_ok N) (jn_ok _ _ _) Go.Proofs.Try.func13 (by kernel_rfl) (IT := noIt) (sl := sl_laws_szBoard_r) (J := J_laws_szBoard_r) (K := K) (H := [(some (HE.mk true (HB.rows (B.lDevice _))))]) (noIt_ok) (by kernel_rfl) rfl ((e_laws_szBoard_r N _ _ _ _ _ K).trans h)
  · cases h
/-! ### loop.example/g00038/laws.toDevice -/
abbrev sl_laws_toDevice : SlotT := []
abbrev J_laws_toDevice : JT := jn [] [] []
noncomputable def O_laws_toDevice (N : Nat) : Orc E := noFn
theorem O_laws_toDevice_ok (N : Nat) : OrcOk (O_laws_toDevice N) := noFn_ok
noncomputable def g_laws_toDevice (N : Nat) {R : Type} (n : Int) (n1 : Int) (n2 : Int) (k : Option R) : Option R :=
  k
theorem e_laws_toDevice (N : Nat) {R : Type} (n : Int) (n1 : Int) (n2 : Int) (K : AV → Hp E → Option R) :
    runFnI (E := E) (O_laws_toDevice N) (noIt) sl_laws_toDevice J_laws_toDevice Go.Proofs.Try.f88 [(AV.agg [(SV.int IntKind.i64 n), (SV.int IntKind.i64 n1), (SV.int IntKind.i64 n2)])] [] K =
      g_laws_toDevice N n n1 n2 (K (AV.agg [(SV.int IntKind.i64 n), (SV.int IntKind.i64 n1), (SV.int IntKind.i64 n2)]) []) := by kernel_rfl
noncomputable def o_laws_toDevice (N : Nat) {R : Type} (args : List AV) (H : Hp E) (K : AV → Hp E → Option R) : Option R :=
  match args, H with
  | [(AV.agg [(SV.int IntKind.i64 n), (SV.int IntKind.i64 n1), (SV.int IntKind.i64 n2)])], [] => g_laws_toDevice N n n1 n2 (K (AV.agg [(SV.int IntKind.i64 n), (SV.int IntKind.i64 n1), (SV.int IntKind.i64 n2)]) [])
  | _, _ => none
theorem o_laws_toDevice_ok (N : Nat) : FnOk E 88 (o_laws_toDevice N) := by
  intro R args H K r h
  unfold o_laws_toDevice at h
  dsimp only at h
  split at h
  · exact fnB_ok (ids := []) (top := []) ok (O_laws_toDevice_ok N) (jn_ok _ _ _) Go.Proofs.Try.func88 (by kernel_rfl) (IT := noIt) (sl := sl_laws_toDevice) (J := J_laws_toDevice) (K := K) (H := []) (noIt_ok) (by kernel_rfl) rfl ((e_laws_toDevice N _ _ _ K).trans h)
  · cases h
/-! ### loop.example/g00038/laws.toDeviceS -/
abbrev sl_laws_toDeviceS_r : SlotT := [(0, ([0, 3, 4], [3]))]
abbrev J_laws_toDeviceS_r : JT := jn [] [] []
noncomputable def O_laws_toDeviceS_r (N : Nat) : Orc E := addFn 88 (o_laws_toDevice N) (noFn)
theorem O_laws_toDeviceS_r_ok (N : Nat) : OrcOk (O_laws_toDeviceS_r N) := addFn_ok (o_laws_toDevice_ok N) (noFn_ok)
noncomputable def s_laws_toDeviceS_r_0 (N : Nat) {R : Type} (b1 : Bool) (b2 : Bool) (l1 : List Device) (n : Int) (l2 : List Device) (ag : Int → (List Device) → Option R)  (kN : (List Device) → Option R) : Option R :=
  (cond (decide ((n < (((List.length l1) : Nat) : Int))))
  (cond ((decide (((0 : Int) ≤ n))) && (decide ((n < (((List.length l1) : Nat) : Int)))))
    (elemK l1 (Int.toNat n) fun x =>
      (g_laws_toDevice N (Device.fKind x) (Device.fPort x) (Device.fLine x) 
      (cond ((decide (((0 : Int) ≤ n))) && (decide ((n < (((List.length l2) : Nat) : Int)))))
      (elemK l2 (Int.toNat n) fun x1 =>
        (cond (Nat.blt (Int.toNat n) (List.length l2))
        (ag (IntKind.wrap IntKind.i64 (n + (1 : Int))) (nset l2 (Int.toNat n) (Device.mk (Device.fKind x) (Device.fPort x) (Device.fLine x))))
        none))
      none)))
    none)
  (kN l2))
noncomputable def l_laws_toDeviceS_r_0 (N : Nat) {R : Type} (b1 : Bool) (b2 : Bool) (l1 : List Device) (kN : (List Device) → Option R) : Nat → Int → (List Device) → Option R
  | 0, _, _ => none
  | f + 1, n, l2 => s_laws_toDeviceS_r_0 N b1 b2 l1 n l2 (fun n l2 => l_laws_toDeviceS_r_0 N b1 b2 l1 kN f n l2)  kN
noncomputable def c_laws_toDeviceS_r_0 (N : Nat) {R : Type} (b1 : Bool) (b2 : Bool) (l1 : List Device) (n : Int) (l2 : List Device) (kN : (List Device) → Option R) : Option R := l_laws_toDeviceS_r_0 N b1 b2 l1 kN N n l2
theorem se_laws_toDeviceS_r_0 (N : Nat) {R : Type} (b1 : Bool) (b2 : Bool) (l1 : List Device) (n : Int) (l2 : List Device) (AG : List (Option AV) → Hp E → Option R) (KL : Ex → List (Option AV) → Hp E → Option R) :
    iterStep (E := E) (O_laws_toDeviceS_r N) (fun {R} => LI (noIt) 1 23 sl_laws_toDeviceS_r (R := R)) J_laws_toDeviceS_r 1 23 0 [0, 3, 4] [3] (body Go.Proofs.Try.f58 0) AG KL [(some (AV.sc (SV.slc 0 none b1))), (some (AV.sc (SV.slc 1 none b2))), (some (AV.sc (SV.int IntKind.i64 n)))] [(some (HE.mk true (HB.rows (B.lDevice l1)))), (some (HE.mk false (HB.rows (B.iDevice l2))))] =
      s_laws_toDeviceS_r_0 N b1 b2 l1 n l2 (fun n l2 => AG [(some (AV.sc (SV.slc 0 none b1))), (some (AV.sc (SV.slc 1 none b2))), (some (AV.sc (SV.int IntKind.i64 n)))] [(some (HE.mk true (HB.rows (B.lDevice l1)))), (some (HE.mk false (HB.rows (B.iDevice l2))))])  (fun l5 => KL Ex.normal [(some (AV.sc (SV.slc 1 none b2)))] [(some (HE.mk true (HB.rows (B.lDevice l1)))), (some (HE.mk false (HB.rows (B.iDevice l5))))]) := by kernel_rfl
theorem le_laws_toDeviceS_r_0 (N : Nat) {R : Type} (b1 : Bool) (b2 : Bool) (l1 : List Device) (KL : Ex → List (Option AV) → Hp E → Option R) : ∀ (f : Nat), ∀ (n : Int) (l2 : List Device), iterK (E := E) (O_laws_toDeviceS_r N) (fun {R} => LI (noIt) 1 23 sl_laws_toDeviceS_r (R := R)) J_laws_toDeviceS_r 1 23 0 [0, 3, 4] [3] (body Go.Proofs.Try.f58 0) f [(some (AV.sc (SV.slc 0 none b1))), (some (AV.sc (SV.slc 1 none b2))), (some (AV.sc (SV.int IntKind.i64 n)))] [(some (HE.mk true (HB.rows (B.lDevice l1)))), (some (HE.mk false (HB.rows (B.iDevice l2))))] KL = l_laws_toDeviceS_r_0 N b1 b2 l1 (fun l5 => KL Ex.normal [(some (AV.sc (SV.slc 1 none b2)))] [(some (HE.mk true (HB.rows (B.lDevice l1)))), (some (HE.mk false (HB.rows (B.iDevice l5))))]) f n l2 := by
  intro f
  induction f with
  | zero => intros; rfl
  | succ f ih =>
    intro n l2
    rw [iterK_succ, se_laws_toDeviceS_r_0]
    exact (congrArg (fun z0 => s_laws_toDeviceS_r_0 N b1 b2 l1 n l2 z0 (fun l5 => KL Ex.normal [(some (AV.sc (SV.slc 1 none b2)))] [(some (HE.mk true (HB.rows (B.lDevice l1)))), (some (HE.mk false (HB.rows (B.iDevice l5))))])) (funext fun n => funext fun l2 => ih n l2))
noncomputable def i_laws_toDeviceS_r_0 (N : Nat) {R : Type} (vs : List (Option AV)) (H : Hp E) (KL : Ex → List (Option AV) → Hp E → Option R) : Option R :=
  match vs, H with
  | [(some (AV.sc (SV.slc 0 none b1))), (some (AV.sc (SV.slc 1 none b2))), (some (AV.sc (SV.int IntKind.i64 n)))], [(some (HE.mk true (HB.rows (B.lDevice l1)))), (some (HE.mk false (HB.rows (B.iDevice l2))))] => c_laws_toDeviceS_r_0 N b1 b2 l1 n l2 (fun l6 => KL Ex.normal [(some (AV.sc (SV.slc 1 none b2)))] [(some (HE.mk true (HB.rows (B.lDevice l1)))), (some (HE.mk false (HB.rows (B.iDevice l6))))])
  | _, _ => none
noncomputable def IT_laws_toDeviceS_r_0 (N : Nat) : Its E := addIt 0 (i_laws_toDeviceS_r_0 N) (noIt)
theorem IT_laws_toDeviceS_r_0_ok (N : Nat) : ItOk (IT_laws_toDeviceS_r_0 N) 1 23 sl_laws_toDeviceS_r (lsB Go.Proofs.Try.f58 [0]) :=
  addItB_ok (inner := []) ok (O_laws_toDeviceS_r_ok N) (jn_ok _ _ _) (noIt_ok) rfl (by kernel_rfl) rfl fun vs H KL r h => by
    unfold i_laws_toDeviceS_r_0 at h
    split at h
    · exact ⟨_, (le_laws_toDeviceS_r_0 N _ _ _ KL N _ _).trans h⟩
    · cases h
noncomputable def g_laws_toDeviceS_r (N : Nat) {R : Type} (b : Bool) (l : List Device) (k : (List Device) → Option R) : Option R :=
  (cond (((decide (((((List.length l) : Nat) : Int) = (((List.length l) : Nat) : Int)))) && true) && (Go.Eng.roomOk (Int.toNat (((List.length l) : Nat) : Int)) 24))
  (c_laws_toDeviceS_r_0 N b false l (0 : Int) (List.replicate (Int.toNat (((List.length l) : Nat) : Int)) (Device.mk (0 : Int) (0 : Int) (0 : Int))) fun l3 =>
    (k l3))
  none)
theorem e_laws_toDeviceS_r (N : Nat) {R : Type} (b : Bool) (l : List Device) (K : AV → Hp E → Option R) :
    runFnI (E := E) (O_laws_toDeviceS_r N) (IT_laws_toDeviceS_r_0 N) sl_laws_toDeviceS_r J_laws_toDeviceS_r Go.Proofs.Try.f58 [(AV.sc (SV.slc 0 none b))] [(some (HE.mk true (HB.rows (B.lDevice l))))] K =
      g_laws_toDeviceS_r N b l (fun l4 => K (AV.sc (SV.slc 1 none false)) [(some (HE.mk true (HB.rows (B.lDevice l)))), (some (HE.mk false (HB.rows (B.iDevice l4))))]) := by kernel_rfl
noncomputable def o_laws_toDeviceS_r (N : Nat) {R : Type} (args : List AV) (H : Hp E) (K : AV → Hp E → Option R) : Option R :=
  match args, H with
  | [(AV.sc (SV.slc 0 none b))], [(some (HE.mk true (HB.rows (B.lDevice l))))] => g_laws_toDeviceS_r N b l (fun l4 => K (AV.sc (SV.slc 1 none false)) [(some (HE.mk true (HB.rows (B.lDevice l)))), (some (HE.mk false (HB.rows (B.iDevice l4))))])
  | _, _ => none
theorem o_laws_toDeviceS_r_ok (N : Nat) : FnOk E 58 (o_laws_toDeviceS_r N) := by
  intro R args H K r h
  unfold o_laws_toDeviceS_r at h
  dsimp only at h
  split at h
  · exact fnB_ok (ids := [0]) (top := [0]) ok (O_laws_toDeviceS_r_ok N) (jn_ok _ _ _) Go.Proofs.Try.func58 (by kernel_rfl) (IT := IT_laws_toDeviceS_r_0 N) (sl := sl_laws_toDeviceS_r) (J := J_laws_toDeviceS_r) (K := K) (H := [(some (HE.mk true (HB.rows (B.lDevice _))))]) (IT_laws_toDeviceS_r_0_ok N) (by kernel_rfl) rfl ((e_laws_toDeviceS_r N _ _ K).trans h)
  · cases h
/-! ### loop.example/g00038/laws.toBoard -/
abbrev sl_laws_toBoard_r : SlotT := []
abbrev J_laws_toBoard_r : JT := jn [] [] []
noncomputable def O_laws_toBoard_r (N : Nat) : Orc E := addFn 58 (o_laws_toDeviceS_r N) (noFn)
theorem O_laws_toBoard_r_ok (N : Nat) : OrcOk (O_laws_toBoard_r N) := addFn_ok (o_laws_toDeviceS_r_ok N) (noFn_ok)
noncomputable def g_laws_toBoard_r (N : Nat) {R : Type} (n : Int) (n1 : Int) (b : Bool) (l : List Device) (k : (List Device) → Option R) : Option R :=
  (g_laws_toDeviceS_r N b l fun l1 =>
  (k l1))
theorem e_laws_toBoard_r (N : Nat) {R : Type} (n : Int) (n1 : Int) (b : Bool) (l : List Device) (K : AV → Hp E → Option R) :
    runFnI (E := E) (O_laws_toBoard_r N) (noIt) sl_laws_toBoard_r J_laws_toBoard_r Go.Proofs.Try.f15 [(AV.agg [(SV.int IntKind.i64 n), (SV.int IntKind.i64 n1), (SV.slc 0 none b)])] [(some (HE.mk true (HB.rows (B.lDevice l))))] K =
      g_laws_toBoard_r N n n1 b l (fun l2 => K (AV.agg [(SV.int IntKind.i64 n), (SV.int IntKind.i64 n1), (SV.slc 1 none false)]) [(some (HE.mk true (HB.rows (B.lDevice l)))), (some (HE.mk false (HB.rows (B.iDevice l2))))]) := by kernel_rfl
noncomputable def o_laws_toBoard_r (N : Nat) {R : Type} (args : List AV) (H : Hp E) (K : AV → Hp E → Option R) : Option R :=
  match args, H with
  | [(AV.agg [(SV.int IntKind.i64 n), (SV.int IntKind.i64 n1), (SV.slc 0 none b)])], [(some (HE.mk true (HB.rows (B.lDevice l))))] => g_laws_toBoard_r N n n1 b l (fun l2 => K (AV.agg [(SV.int IntKind.i64 n), (SV.int IntKind.i64 n1), (SV.slc 1 none false)]) [(some (HE.mk true (HB.rows (B.lDevice l)))), (some (HE.mk false (HB.rows (B.iDevice l2))))])
  | _, _ => none
theorem o_laws_toBoard_r_ok (N : Nat) : FnOk E 15 (o_laws_toBoard_r N) := by
  intro R args H K r h
  unfold o_laws_toBoard_r at h
  dsimp only at h
  split at h
  · exact fnB_ok (ids := []) (top := []) ok (O_laws_toBoard_r_ok N) (jn_ok _ _ _) Go.Proofs.Try.func15 (by kernel_rfl) (IT := noIt) (sl := sl_laws_toBoard_r) (J := J_laws_toBoard_r) (K := K) (H := [(some (HE.mk true (HB.rows (B.lDevice _))))]) (noIt_ok) (by kernel_rfl) rfl ((e_laws_toBoard_r N _ _ _ _ K).trans h)
  · cases h
/-! ### loop.example/g00038/spec.BoardFault -/
abbrev sl_spec_BoardFault_r : SlotT := [(0, ([1, 3], [2]))]
abbrev J_spec_BoardFault_r : JT := jn [(1, [(28, .b)]), (7, [(84, .b)])] [] []
noncomputable def O_spec_BoardFault_r (N : Nat) : Orc E := noFn
theorem O_spec_BoardFault_r_ok (N : Nat) : OrcOk (O_spec_BoardFault_r N) := noFn_ok
noncomputable def s_spec_BoardFault_r_0 (N : Nat) {R : Type} (l1 : List Device) (n3 : Int) (n4 : Int) (b1 : Bool) (n2 : Int) (ag : Int → Option R)  (kR : Option R) (kN : Option R) : Option R :=
  (cond (decide ((n2 < (((List.length l1) : Nat) : Int))))
  (cond ((decide (((0 : Int) ≤ n2))) && (decide ((n2 < (((List.length l1) : Nat) : Int)))))
    (elemK l1 (Int.toNat n2) fun x =>
      (oK (cond (decide (((Device.fKind x) < (1 : Int))))
        (some true)
        (cond (decide (((Device.fKind x) > (255 : Int))))
          (some true)
          (cond (decide (((Device.fPort x) < (0 : Int))))
            (some true)
            (cond (decide (((Device.fPort x) > (2047 : Int))))
              (some true)
              (cond (decide (((Device.fLine x) < (0 : Int))))
                (some true)
                (cond (decide (((Device.fLine x) > (6 : Int))))
                  (some true)
                  (cond (decide ((n2 > (0 : Int))))
                    (cond ((decide (((0 : Int) ≤ (IntKind.wrap IntKind.i64 (n2 - (1 : Int)))))) && (decide (((IntKind.wrap IntKind.i64 (n2 - (1 : Int))) < (((List.length l1) : Nat) : Int)))))
                      (elemK l1 (Int.toNat (IntKind.wrap IntKind.i64 (n2 - (1 : Int)))) fun x1 =>
                        (some (decide (((Device.fPort x1) ≥ (Device.fPort x))))))
                      none)
                    (some false)))))))) fun j1 =>
      (cond j1
      kR
      (ag (IntKind.wrap IntKind.i64 (n2 + (1 : Int)))))))
    none)
  kN)
noncomputable def l_spec_BoardFault_r_0 (N : Nat) {R : Type} (l1 : List Device) (n3 : Int) (n4 : Int) (b1 : Bool) (kR : Option R) (kN : Option R) : Nat → Int → Option R
  | 0, _ => none
  | f + 1, n2 => s_spec_BoardFault_r_0 N l1 n3 n4 b1 n2 (fun n2 => l_spec_BoardFault_r_0 N l1 n3 n4 b1 kR kN f n2)  kR kN
noncomputable def c_spec_BoardFault_r_0 (N : Nat) {R : Type} (l1 : List Device) (n3 : Int) (n4 : Int) (b1 : Bool) (n2 : Int) (kR : Option R) (kN : Option R) : Option R := l_spec_BoardFault_r_0 N l1 n3 n4 b1 kR kN N n2
theorem se_spec_BoardFault_r_0 (N : Nat) {R : Type} (l1 : List Device) (n3 : Int) (n4 : Int) (b1 : Bool) (n2 : Int) (AG : List (Option AV) → Hp E → Option R) (KL : Ex → List (Option AV) → Hp E → Option R) :
    iterStep (E := E) (O_spec_BoardFault_r N) (fun {R} => LI (noIt) 1 85 sl_spec_BoardFault_r (R := R)) J_spec_BoardFault_r 1 85 0 [1, 3] [2] (body Go.Proofs.Try.f51 0) AG KL [(some (AV.sc (SV.ptr 1 0 0))), (some (AV.sc (SV.int IntKind.i64 n2)))] [(some (HE.mk true (HB.rows (B.iDevice l1)))), (some (HE.mk false (HB.exp none [(SV.int IntKind.i64 n3), (SV.int IntKind.i64 n4), (SV.slc 0 none b1)])))] =
      s_spec_BoardFault_r_0 N l1 n3 n4 b1 n2 (fun n2 => AG [(some (AV.sc (SV.ptr 1 0 0))), (some (AV.sc (SV.int IntKind.i64 n2)))] [(some (HE.mk true (HB.rows (B.iDevice l1)))), (some (HE.mk false (HB.exp none [(SV.int IntKind.i64 n3), (SV.int IntKind.i64 n4), (SV.slc 0 none b1)])))])  (KL Ex.ret [(some (AV.sc (SV.int IntKind.i64 (1 : Int))))] [(some (HE.mk true (HB.rows (B.iDevice l1))))]) (KL Ex.normal [none] [(some (HE.mk true (HB.rows (B.iDevice l1))))]) := by kernel_rfl
theorem le_spec_BoardFault_r_0 (N : Nat) {R : Type} (l1 : List Device) (n3 : Int) (n4 : Int) (b1 : Bool) (KL : Ex → List (Option AV) → Hp E → Option R) : ∀ (f : Nat), ∀ (n2 : Int), iterK (E := E) (O_spec_BoardFault_r N) (fun {R} => LI (noIt) 1 85 sl_spec_BoardFault_r (R := R)) J_spec_BoardFault_r 1 85 0 [1, 3] [2] (body Go.Proofs.Try.f51 0) f [(some (AV.sc (SV.ptr 1 0 0))), (some (AV.sc (SV.int IntKind.i64 n2)))] [(some (HE.mk true (HB.rows (B.iDevice l1)))), (some (HE.mk false (HB.exp none [(SV.int IntKind.i64 n3), (SV.int IntKind.i64 n4), (SV.slc 0 none b1)])))] KL = l_spec_BoardFault_r_0 N l1 n3 n4 b1 (KL Ex.ret [(some (AV.sc (SV.int IntKind.i64 (1 : Int))))] [(some (HE.mk true (HB.rows (B.iDevice l1))))]) (KL Ex.normal [none] [(some (HE.mk true (HB.rows (B.iDevice l1))))]) f n2 := by
  intro f
  induction f with
  | zero => intros; rfl
  | succ f ih =>
    intro n2
    rw [iterK_succ, se_spec_BoardFault_r_0]
    exact (congrArg (fun z0 => s_spec_BoardFault_r_0 N l1 n3 n4 b1 n2 z0 (KL Ex.ret [(some (AV.sc (SV.int IntKind.i64 (1 : Int))))] [(some (HE.mk true (HB.rows (B.iDevice l1))))]) (KL Ex.normal [none] [(some (HE.mk true (HB.rows (B.iDevice l1))))])) (funext fun n2 => ih n2))
noncomputable def i_spec_BoardFault_r_0 (N : Nat) {R : Type} (vs : List (Option AV)) (H : Hp E) (KL : Ex → List (Option AV) → Hp E → Option R) : Option R :=
  match vs, H with
  | [(some (AV.sc (SV.ptr 1 0 0))), (some (AV.sc (SV.int IntKind.i64 n2)))], [(some (HE.mk true (HB.rows (B.iDevice l1)))), (some (HE.mk false (HB.exp none [(SV.int IntKind.i64 n3), (SV.int IntKind.i64 n4), (SV.slc 0 none b1)])))] => c_spec_BoardFault_r_0 N l1 n3 n4 b1 n2 (KL Ex.ret [(some (AV.sc (SV.int IntKind.i64 (1 : Int))))] [(some (HE.mk true (HB.rows (B.iDevice l1))))]) (KL Ex.normal [none] [(some (HE.mk true (HB.rows (B.iDevice l1))))])
  | _, _ => none
noncomputable def IT_spec_BoardFault_r_0 (N : Nat) : Its E := addIt 0 (i_spec_BoardFault_r_0 N) (noIt)
theorem IT_spec_BoardFault_r_0_ok (N : Nat) : ItOk (IT_spec_BoardFault_r_0 N) 1 85 sl_spec_BoardFault_r (lsB Go.Proofs.Try.f51 [0]) :=
  addItB_ok (inner := []) ok (O_spec_BoardFault_r_ok N) (jn_ok _ _ _) (noIt_ok) rfl (by kernel_rfl) rfl fun vs H KL r h => by
    unfold i_spec_BoardFault_r_0 at h
    split at h
    · exact ⟨_, (le_spec_BoardFault_r_0 N _ _ _ _ KL N _).trans h⟩
    · cases h
noncomputable def g_spec_BoardFault_r (N : Nat) {R : Type} (n : Int) (n1 : Int) (b : Bool) (l : List Device) (k : Int → Option R) : Option R :=
  (oK (cond (decide ((n < (2 : Int))))
    (some true)
    (cond (decide ((n > (256 : Int))))
      (some true)
      (cond (decide ((n1 < (1 : Int))))
        (some true)
        (cond (decide ((n1 > (8 : Int))))
          (some true)
          (some (decide (((((List.length l) : Nat) : Int) > (16 : Int))))))))) fun j =>
  (cond j
  (k (1 : Int))
  (c_spec_BoardFault_r_0 N l n n1 b (0 : Int) (
    (k (1 : Int))) (
    (k (0 : Int))))))
theorem e_spec_BoardFault_r (N : Nat) {R : Type} (n : Int) (n1 : Int) (b : Bool) (l : List Device) (K : AV → Hp E → Option R) :
    runFnI (E := E) (O_spec_BoardFault_r N) (IT_spec_BoardFault_r_0 N) sl_spec_BoardFault_r J_spec_BoardFault_r Go.Proofs.Try.f51 [(AV.agg [(SV.int IntKind.i64 n), (SV.int IntKind.i64 n1), (SV.slc 0 none b)])] [(some (HE.mk true (HB.rows (B.iDevice l))))] K =
      g_spec_BoardFault_r N n n1 b l (fun n5 => K (AV.sc (SV.int IntKind.i64 n5)) [(some (HE.mk true (HB.rows (B.iDevice l))))]) := by kernel_rfl
noncomputable def o_spec_BoardFault_r (N : Nat) {R : Type} (args : List AV) (H : Hp E) (K : AV → Hp E → Option R) : Option R :=
  match args, H with
  | [(AV.agg [(SV.int IntKind.i64 n), (SV.int IntKind.i64 n1), (SV.slc 0 none b)])], [(some (HE.mk true (HB.rows (B.iDevice l))))] => g_spec_BoardFault_r N n n1 b l (fun n5 => K (AV.sc (SV.int IntKind.i64 n5)) [(some (HE.mk true (HB.rows (B.iDevice l))))])
  | _, _ => none
theorem o_spec_BoardFault_r_ok (N : Nat) : FnOk E 51 (o_spec_BoardFault_r N) := by
  intro R args H K r h
  unfold o_spec_BoardFault_r at h
  dsimp only at h
  split at h
  · exact fnB_ok (ids := [0]) (top := [0]) ok (O_spec_BoardFault_r_ok N) (jn_ok _ _ _) Go.Proofs.Try.func51 (by kernel_rfl) (IT := IT_spec_BoardFault_r_0 N) (sl := sl_spec_BoardFault_r) (J := J_spec_BoardFault_r) (K := K) (H := [(some (HE.mk true (HB.rows (B.iDevice _))))]) (IT_spec_BoardFault_r_0_ok N) (by kernel_rfl) rfl ((e_spec_BoardFault_r N _ _ _ _ K).trans h)
  · cases h
/-! ### loop.example/g00038/spec.l01Word -/
abbrev sl_spec_l01Word : SlotT := []
abbrev J_spec_l01Word : JT := jn [] [] []
noncomputable def O_spec_l01Word (N : Nat) : Orc E := noFn
theorem O_spec_l01Word_ok (N : Nat) : OrcOk (O_spec_l01Word N) := noFn_ok
noncomputable def g_spec_l01Word (N : Nat) {R : Type} (s : ByteArray) (n : Int) (k : Int → Option R) : Option R :=
  (cond ((decide (((0 : Int) ≤ n))) && (decide ((n < (((ByteArray.size s) : Nat) : Int)))))
  (cond ((decide (((0 : Int) ≤ (IntKind.wrap IntKind.i64 (n + (1 : Int)))))) && (decide (((IntKind.wrap IntKind.i64 (n + (1 : Int))) < (((ByteArray.size s) : Nat) : Int)))))
    (cond ((decide (((0 : Int) ≤ (IntKind.wrap IntKind.i64 (n + (2 : Int)))))) && (decide (((IntKind.wrap IntKind.i64 (n + (2 : Int))) < (((ByteArray.size s) : Nat) : Int)))))
      (cond ((decide (((0 : Int) ≤ (IntKind.wrap IntKind.i64 (n + (3 : Int)))))) && (decide (((IntKind.wrap IntKind.i64 (n + (3 : Int))) < (((ByteArray.size s) : Nat) : Int)))))
        (k (IntKind.wrap IntKind.i64 ((IntKind.wrap IntKind.i64 ((IntKind.wrap IntKind.i64 ((IntKind.wrap IntKind.i64 (Go.Eng.bt s (Int.toNat n))) + (IntKind.wrap IntKind.i64 ((IntKind.wrap IntKind.i64 (Go.Eng.bt s (Int.toNat (IntKind.wrap IntKind.i64 (n + (1 : Int)))))) * (256 : Int))))) + (IntKind.wrap IntKind.i64 ((IntKind.wrap IntKind.i64 (Go.Eng.bt s (Int.toNat (IntKind.wrap IntKind.i64 (n + (2 : Int)))))) * (65536 : Int))))) + (IntKind.wrap IntKind.i64 ((IntKind.wrap IntKind.i64 (Go.Eng.bt s (Int.toNat (IntKind.wrap IntKind.i64 (n + (3 : Int)))))) * (16777216 : Int))))))
        none)
      none)
    none)
  none)
theorem e_spec_l01Word (N : Nat) {R : Type} (s : ByteArray) (n : Int) (K : AV → Hp E → Option R) :
    runFnI (E := E) (O_spec_l01Word N) (noIt) sl_spec_l01Word J_spec_l01Word Go.Proofs.Try.f52 [(AV.sc (SV.str s)), (AV.sc (SV.int IntKind.i64 n))] [] K =
      g_spec_l01Word N s n (fun n1 => K (AV.sc (SV.int IntKind.i64 n1)) []) := by kernel_rfl
noncomputable def o_spec_l01Word (N : Nat) {R : Type} (args : List AV) (H : Hp E) (K : AV → Hp E → Option R) : Option R :=
  match args, H with
  | [(AV.sc (SV.str s)), (AV.sc (SV.int IntKind.i64 n))], [] => g_spec_l01Word N s n (fun n1 => K (AV.sc (SV.int IntKind.i64 n1)) [])
  | _, _ => none
theorem o_spec_l01Word_ok (N : Nat) : FnOk E 52 (o_spec_l01Word N) := by
  intro R args H K r h
  unfold o_spec_l01Word at h
  dsimp only at h
  split at h
  · exact fnB_ok (ids := []) (top := []) ok (O_spec_l01Word_ok N) (jn_ok _ _ _) Go.Proofs.Try.func52 (by kernel_rfl) (IT := noIt) (sl := sl_spec_l01Word) (J := J_spec_l01Word) (K := K) (H := []) (noIt_ok) (by kernel_rfl) rfl ((e_spec_l01Word N _ _ K).trans h)
  · cases h
/-! ### loop.example/g00038/spec.l10In -/
abbrev sl_spec_l10In : SlotT := []
abbrev J_spec_l10In : JT := jn [(1, [(6, .b)])] [] []
noncomputable def O_spec_l10In (N : Nat) : Orc E := noFn
theorem O_spec_l10In_ok (N : Nat) : OrcOk (O_spec_l10In N) := noFn_ok
noncomputable def g_spec_l10In (N : Nat) {R : Type} (s : ByteArray) (n : Int) (n1 : Int) (k : Bool → Option R) : Option R :=
  (oK (cond (decide ((n ≥ (0 : Int))))
    (cond (decide ((n1 ≥ (0 : Int))))
      (cond (decide ((n ≤ (((ByteArray.size s) : Nat) : Int))))
        (some (decide ((n1 ≤ (IntKind.wrap IntKind.i64 ((((ByteArray.size s) : Nat) : Int) - n))))))
        (some false))
      (some false))
    (some false)) fun j =>
  (k j))
theorem e_spec_l10In (N : Nat) {R : Type} (s : ByteArray) (n : Int) (n1 : Int) (K : AV → Hp E → Option R) :
    runFnI (E := E) (O_spec_l10In N) (noIt) sl_spec_l10In J_spec_l10In Go.Proofs.Try.f53 [(AV.sc (SV.str s)), (AV.sc (SV.int IntKind.i64 n)), (AV.sc (SV.int IntKind.i64 n1))] [] K =
      g_spec_l10In N s n n1 (fun b => K (AV.sc (SV.bool b)) []) := by kernel_rfl
noncomputable def o_spec_l10In (N : Nat) {R : Type} (args : List AV) (H : Hp E) (K : AV → Hp E → Option R) : Option R :=
  match args, H with
  | [(AV.sc (SV.str s)), (AV.sc (SV.int IntKind.i64 n)), (AV.sc (SV.int IntKind.i64 n1))], [] => g_spec_l10In N s n n1 (fun b => K (AV.sc (SV.bool b)) [])
  | _, _ => none
theorem o_spec_l10In_ok (N : Nat) : FnOk E 53 (o_spec_l10In N) := by
  intro R args H K r h
  unfold o_spec_l10In at h
  dsimp only at h
  split at h
  · exact fnB_ok (ids := []) (top := []) ok (O_spec_l10In_ok N) (jn_ok _ _ _) Go.Proofs.Try.func53 (by kernel_rfl) (IT := noIt) (sl := sl_spec_l10In) (J := J_spec_l10In) (K := K) (H := []) (noIt_ok) (by kernel_rfl) rfl ((e_spec_l10In N _ _ _ K).trans h)
  · cases h
/-! ### loop.example/g00038/spec.l01Mod -/
abbrev sl_spec_l01Mod : SlotT := []
abbrev J_spec_l01Mod : JT := jn [] [(10, [(5, .i .i64)])] []
noncomputable def O_spec_l01Mod (N : Nat) : Orc E := noFn
theorem O_spec_l01Mod_ok (N : Nat) : OrcOk (O_spec_l01Mod N) := noFn_ok
noncomputable def g_spec_l01Mod (N : Nat) {R : Type} (n : Int) (n1 : Int) (k : Int → Option R) : Option R :=
  (cond (n1 == (0 : Int))
  none
  (oK (cond (decide (((Int.tmod n n1) < (0 : Int))))
      (some (IntKind.wrap IntKind.i64 ((Int.tmod n n1) + n1)))
      (some (Int.tmod n n1))) fun j =>
    (k j)))
theorem e_spec_l01Mod (N : Nat) {R : Type} (n : Int) (n1 : Int) (K : AV → Hp E → Option R) :
    runFnI (E := E) (O_spec_l01Mod N) (noIt) sl_spec_l01Mod J_spec_l01Mod Go.Proofs.Try.f73 [(AV.sc (SV.int IntKind.i64 n)), (AV.sc (SV.int IntKind.i64 n1))] [] K =
      g_spec_l01Mod N n n1 (fun n2 => K (AV.sc (SV.int IntKind.i64 n2)) []) := by kernel_rfl
noncomputable def o_spec_l01Mod (N : Nat) {R : Type} (args : List AV) (H : Hp E) (K : AV → Hp E → Option R) : Option R :=
  match args, H with
  | [(AV.sc (SV.int IntKind.i64 n)), (AV.sc (SV.int IntKind.i64 n1))], [] => g_spec_l01Mod N n n1 (fun n2 => K (AV.sc (SV.int IntKind.i64 n2)) [])
  | _, _ => none
theorem o_spec_l01Mod_ok (N : Nat) : FnOk E 73 (o_spec_l01Mod N) := by
  intro R args H K r h
  unfold o_spec_l01Mod at h
  dsimp only at h
  split at h
  · exact fnB_ok (ids := []) (top := []) ok (O_spec_l01Mod_ok N) (jn_ok _ _ _) Go.Proofs.Try.func73 (by kernel_rfl) (IT := noIt) (sl := sl_spec_l01Mod) (J := J_spec_l01Mod) (K := K) (H := []) (noIt_ok) (by kernel_rfl) rfl ((e_spec_l01Mod N _ _ K).trans h)
  · cases h
/-! ### loop.example/g00038/spec.Mix -/
abbrev sl_spec_Mix : SlotT := [(0, ([0, 5, 6], [5]))]
abbrev J_spec_Mix : JT := jn [] [] []
noncomputable def O_spec_Mix (N : Nat) : Orc E := addFn 73 (o_spec_l01Mod N) (noFn)
theorem O_spec_Mix_ok (N : Nat) : OrcOk (O_spec_Mix N) := addFn_ok (o_spec_l01Mod_ok N) (noFn_ok)
noncomputable def s_spec_Mix_0 (N : Nat) {R : Type} (s1 : ByteArray) (n2 : Int) (n3 : Int) (ag : Int → Int → Option R)  (kN : Int → Option R) : Option R :=
  (cond (decide ((n3 < (((ByteArray.size s1) : Nat) : Int))))
  (cond ((decide (((0 : Int) ≤ n3))) && (decide ((n3 < (((ByteArray.size s1) : Nat) : Int)))))
    (ag (Int.tmod (IntKind.wrap IntKind.i64 ((IntKind.wrap IntKind.i64 ((IntKind.wrap IntKind.i64 (n2 * (65599 : Int))) + (IntKind.wrap IntKind.i64 (Go.Eng.bt s1 (Int.toNat n3))))) + (1 : Int))) (2147483629 : Int)) (IntKind.wrap IntKind.i64 (n3 + (1 : Int))))
    none)
  (kN n2))
noncomputable def l_spec_Mix_0 (N : Nat) {R : Type} (s1 : ByteArray) (kN : Int → Option R) : Nat → Int → Int → Option R
  | 0, _, _ => none
  | f + 1, n2, n3 => s_spec_Mix_0 N s1 n2 n3 (fun n2 n3 => l_spec_Mix_0 N s1 kN f n2 n3)  kN
noncomputable def c_spec_Mix_0 (N : Nat) {R : Type} (s1 : ByteArray) (n2 : Int) (n3 : Int) (kN : Int → Option R) : Option R := l_spec_Mix_0 N s1 kN N n2 n3
theorem se_spec_Mix_0 (N : Nat) {R : Type} (s1 : ByteArray) (n2 : Int) (n3 : Int) (AG : List (Option AV) → Hp E → Option R) (KL : Ex → List (Option AV) → Hp E → Option R) :
    iterStep (E := E) (O_spec_Mix N) (fun {R} => LI (noIt) 0 32 sl_spec_Mix (R := R)) J_spec_Mix 0 32 0 [0, 5, 6] [5] (body Go.Proofs.Try.f32 0) AG KL [(some (AV.sc (SV.str s1))), (some (AV.sc (SV.int IntKind.i64 n2))), (some (AV.sc (SV.int IntKind.i64 n3)))] [] =
      s_spec_Mix_0 N s1 n2 n3 (fun n2 n3 => AG [(some (AV.sc (SV.str s1))), (some (AV.sc (SV.int IntKind.i64 n2))), (some (AV.sc (SV.int IntKind.i64 n3)))] [])  (fun n6 => KL Ex.normal [(some (AV.sc (SV.int IntKind.i64 n6)))] []) := by kernel_rfl
theorem le_spec_Mix_0 (N : Nat) {R : Type} (s1 : ByteArray) (KL : Ex → List (Option AV) → Hp E → Option R) : ∀ (f : Nat), ∀ (n2 : Int) (n3 : Int), iterK (E := E) (O_spec_Mix N) (fun {R} => LI (noIt) 0 32 sl_spec_Mix (R := R)) J_spec_Mix 0 32 0 [0, 5, 6] [5] (body Go.Proofs.Try.f32 0) f [(some (AV.sc (SV.str s1))), (some (AV.sc (SV.int IntKind.i64 n2))), (some (AV.sc (SV.int IntKind.i64 n3)))] [] KL = l_spec_Mix_0 N s1 (fun n6 => KL Ex.normal [(some (AV.sc (SV.int IntKind.i64 n6)))] []) f n2 n3 := by
  intro f
  induction f with
  | zero => intros; rfl
  | succ f ih =>
    intro n2 n3
    rw [iterK_succ, se_spec_Mix_0]
    exact (congrArg (fun z0 => s_spec_Mix_0 N s1 n2 n3 z0 (fun n6 => KL Ex.normal [(some (AV.sc (SV.int IntKind.i64 n6)))] [])) (funext fun n2 => funext fun n3 => ih n2 n3))
noncomputable def i_spec_Mix_0 (N : Nat) {R : Type} (vs : List (Option AV)) (H : Hp E) (KL : Ex → List (Option AV) → Hp E → Option R) : Option R :=
  match vs, H with
  | [(some (AV.sc (SV.str s1))), (some (AV.sc (SV.int IntKind.i64 n2))), (some (AV.sc (SV.int IntKind.i64 n3)))], [] => c_spec_Mix_0 N s1 n2 n3 (fun n7 => KL Ex.normal [(some (AV.sc (SV.int IntKind.i64 n7)))] [])
  | _, _ => none
noncomputable def IT_spec_Mix_0 (N : Nat) : Its E := addIt 0 (i_spec_Mix_0 N) (noIt)
theorem IT_spec_Mix_0_ok (N : Nat) : ItOk (IT_spec_Mix_0 N) 0 32 sl_spec_Mix (lsB Go.Proofs.Try.f32 [0]) :=
  addItB_ok (inner := []) ok (O_spec_Mix_ok N) (jn_ok _ _ _) (noIt_ok) rfl (by kernel_rfl) rfl fun vs H KL r h => by
    unfold i_spec_Mix_0 at h
    split at h
    · exact ⟨_, (le_spec_Mix_0 N _ KL N _ _).trans h⟩
    · cases h
noncomputable def g_spec_Mix (N : Nat) {R : Type} (s : ByteArray) (n : Int) (k : Int → Option R) : Option R :=
  (cond (decide (((((ByteArray.size s) : Nat) : Int) > (65536 : Int))))
  (k (0 : Int))
  (g_spec_l01Mod N n (2147483629 : Int) fun n1 =>
    (c_spec_Mix_0 N s (IntKind.wrap IntKind.i64 (n1 + (1 : Int))) (0 : Int) fun n4 =>
    (k (Int.tmod (IntKind.wrap IntKind.i64 ((IntKind.wrap IntKind.i64 (n4 * (40503 : Int))) + (77 : Int))) (2147483629 : Int))))))
theorem e_spec_Mix (N : Nat) {R : Type} (s : ByteArray) (n : Int) (K : AV → Hp E → Option R) :
    runFnI (E := E) (O_spec_Mix N) (IT_spec_Mix_0 N) sl_spec_Mix J_spec_Mix Go.Proofs.Try.f32 [(AV.sc (SV.str s)), (AV.sc (SV.int IntKind.i64 n))] [] K =
      g_spec_Mix N s n (fun n5 => K (AV.sc (SV.int IntKind.i64 n5)) []) := by kernel_rfl
noncomputable def o_spec_Mix (N : Nat) {R : Type} (args : List AV) (H : Hp E) (K : AV → Hp E → Option R) : Option R :=
  match args, H with
  | [(AV.sc (SV.str s)), (AV.sc (SV.int IntKind.i64 n))], [] => g_spec_Mix N s n (fun n5 => K (AV.sc (SV.int IntKind.i64 n5)) [])
  | _, _ => none
theorem o_spec_Mix_ok (N : Nat) : FnOk E 32 (o_spec_Mix N) := by
  intro R args H K r h
  unfold o_spec_Mix at h
  dsimp only at h
  split at h
  · exact fnB_ok (ids := [0]) (top := [0]) ok (O_spec_Mix_ok N) (jn_ok _ _ _) Go.Proofs.Try.func32 (by kernel_rfl) (IT := IT_spec_Mix_0 N) (sl := sl_spec_Mix) (J := J_spec_Mix) (K := K) (H := []) (IT_spec_Mix_0_ok N) (by kernel_rfl) rfl ((e_spec_Mix N _ _ K).trans h)
  · cases h
/-! ### loop.example/g00038/spec.BoardFault -/
abbrev sl_spec_BoardFault_w : SlotT := [(0, ([1, 3], [2]))]
abbrev J_spec_BoardFault_w : JT := jn [(1, [(28, .b)]), (7, [(84, .b)])] [] []
noncomputable def O_spec_BoardFault_w (N : Nat) : Orc E := noFn
theorem O_spec_BoardFault_w_ok (N : Nat) : OrcOk (O_spec_BoardFault_w N) := noFn_ok
noncomputable def s_spec_BoardFault_w_0 (N : Nat) {R : Type} (l1 : List Device) (n3 : Int) (n4 : Int) (b1 : Bool) (n2 : Int) (ag : Int → Option R)  (kR : Option R) (kN : Option R) : Option R :=
  (cond (decide ((n2 < (((List.length l1) : Nat) : Int))))
  (cond ((decide (((0 : Int) ≤ n2))) && (decide ((n2 < (((List.length l1) : Nat) : Int)))))
    (elemK l1 (Int.toNat n2) fun x =>
      (oK (cond (decide (((Device.fKind x) < (1 : Int))))
        (some true)
        (cond (decide (((Device.fKind x) > (255 : Int))))
          (some true)
          (cond (decide (((Device.fPort x) < (0 : Int))))
            (some true)
            (cond (decide (((Device.fPort x) > (2047 : Int))))
              (some true)
              (cond (decide (((Device.fLine x) < (0 : Int))))
                (some true)
                (cond (decide (((Device.fLine x) > (6 : Int))))
                  (some true)
                  (cond (decide ((n2 > (0 : Int))))
                    (cond ((decide (((0 : Int) ≤ (IntKind.wrap IntKind.i64 (n2 - (1 : Int)))))) && (decide (((IntKind.wrap IntKind.i64 (n2 - (1 : Int))) < (((List.length l1) : Nat) : Int)))))
                      (elemK l1 (Int.toNat (IntKind.wrap IntKind.i64 (n2 - (1 : Int)))) fun x1 =>
                        (some (decide (((Device.fPort x1) ≥ (Device.fPort x))))))
                      none)
                    (some false)))))))) fun j1 =>
      (cond j1
      kR
      (ag (IntKind.wrap IntKind.i64 (n2 + (1 : Int)))))))
    none)
  kN)
noncomputable def l_spec_BoardFault_w_0 (N : Nat) {R : Type} (l1 : List Device) (n3 : Int) (n4 : Int) (b1 : Bool) (kR : Option R) (kN : Option R) : Nat → Int → Option R
  | 0, _ => none
  | f + 1, n2 => s_spec_BoardFault_w_0 N l1 n3 n4 b1 n2 (fun n2 => l_spec_BoardFault_w_0 N l1 n3 n4 b1 kR kN f n2)  kR kN
noncomputable def c_spec_BoardFault_w_0 (N : Nat) {R : Type} (l1 : List Device) (n3 : Int) (n4 : Int) (b1 : Bool) (n2 : Int) (kR : Option R) (kN : Option R) : Option R := l_spec_BoardFault_w_0 N l1 n3 n4 b1 kR kN N n2
theorem se_spec_BoardFault_w_0 (N : Nat) {R : Type} (l1 : List Device) (n3 : Int) (n4 : Int) (b1 : Bool) (n2 : Int) (AG : List (Option AV) → Hp E → Option R) (KL : Ex → List (Option AV) → Hp E → Option R) :
    iterStep (E := E) (O_spec_BoardFault_w N) (fun {R} => LI (noIt) 1 85 sl_spec_BoardFault_w (R := R)) J_spec_BoardFault_w 1 85 0 [1, 3] [2] (body Go.Proofs.Try.f51 0) AG KL [(some (AV.sc (SV.ptr 1 0 0))), (some (AV.sc (SV.int IntKind.i64 n2)))] [(some (HE.mk false (HB.rows (B.iDevice l1)))), (some (HE.mk false (HB.exp none [(SV.int IntKind.i64 n3), (SV.int IntKind.i64 n4), (SV.slc 0 none b1)])))] =
      s_spec_BoardFault_w_0 N l1 n3 n4 b1 n2 (fun n2 => AG [(some (AV.sc (SV.ptr 1 0 0))), (some (AV.sc (SV.int IntKind.i64 n2)))] [(some (HE.mk false (HB.rows (B.iDevice l1)))), (some (HE.mk false (HB.exp none [(SV.int IntKind.i64 n3), (SV.int IntKind.i64 n4), (SV.slc 0 none b1)])))])  (KL Ex.ret [(some (AV.sc (SV.int IntKind.i64 (1 : Int))))] [(some (HE.mk false (HB.rows (B.iDevice l1))))]) (KL Ex.normal [none] [(some (HE.mk false (HB.rows (B.iDevice l1))))]) := by kernel_rfl
theorem le_spec_BoardFault_w_0 (N : Nat) {R : Type} (l1 : List Device) (n3 : Int) (n4 : Int) (b1 : Bool) (KL : Ex → List (Option AV) → Hp E → Option R) : ∀ (f : Nat), ∀ (n2 : Int), iterK (E := E) (O_spec_BoardFault_w N) (fun {R} => LI (noIt) 1 85 sl_spec_BoardFault_w (R := R)) J_spec_BoardFault_w 1 85 0 [1, 3] [2] (body Go.Proofs.Try.f51 0) f [(some (AV.sc (SV.ptr 1 0 0))), (some (AV.sc (SV.int IntKind.i64 n2)))] [(some (HE.mk false (HB.rows (B.iDevice l1)))), (some (HE.mk false (HB.exp none [(SV.int IntKind.i64 n3), (SV.int IntKind.i64 n4), (SV.slc 0 none b1)])))] KL = l_spec_BoardFault_w_0 N l1 n3 n4 b1 (KL Ex.ret [(some (AV.sc (SV.int IntKind.i64 (1 : Int))))] [(some (HE.mk false (HB.rows (B.iDevice l1))))]) (KL Ex.normal [none] [(some (HE.mk false (HB.rows (B.iDevice l1))))]) f n2 := by
  intro f
  induction f with
  | zero => intros; rfl
  | succ f ih =>
    intro n2
    rw [iterK_succ, se_spec_BoardFault_w_0]
    exact (congrArg (fun z0 => s_spec_BoardFault_w_0 N l1 n3 n4 b1 n2 z0 (KL Ex.ret [(some (AV.sc (SV.int IntKind.i64 (1 : Int))))] [(some (HE.mk false (HB.rows (B.iDevice l1))))]) (KL Ex.normal [none] [(some (HE.mk false (HB.rows (B.iDevice l1))))])) (funext fun n2 => ih n2))
noncomputable def i_spec_BoardFault_w_0 (N : Nat) {R : Type} (vs : List (Option AV)) (H : Hp E) (KL : Ex → List (Option AV) → Hp E → Option R) : Option R :=
  match vs, H with
  | [(some (AV.sc (SV.ptr 1 0 0))), (some (AV.sc (SV.int IntKind.i64 n2)))], [(some (HE.mk false (HB.rows (B.iDevice l1)))), (some (HE.mk false (HB.exp none [(SV.int IntKind.i64 n3), (SV.int IntKind.i64 n4), (SV.slc 0 none b1)])))] => c_spec_BoardFault_w_0 N l1 n3 n4 b1 n2 (KL Ex.ret [(some (AV.sc (SV.int IntKind.i64 (1 : Int))))] [(some (HE.mk false (HB.rows (B.iDevice l1))))]) (KL Ex.normal [none] [(some (HE.mk false (HB.rows (B.iDevice l1))))])
  | _, _ => none
noncomputable def IT_spec_BoardFault_w_0 (N : Nat) : Its E := addIt 0 (i_spec_BoardFault_w_0 N) (noIt)
theorem IT_spec_BoardFault_w_0_ok (N : Nat) : ItOk (IT_spec_BoardFault_w_0 N) 1 85 sl_spec_BoardFault_w (lsB Go.Proofs.Try.f51 [0]) :=
  addItB_ok (inner := []) ok (O_spec_BoardFault_w_ok N) (jn_ok _ _ _) (noIt_ok) rfl (by kernel_rfl) rfl fun vs H KL r h => by
    unfold i_spec_BoardFault_w_0 at h
    split at h
    · exact ⟨_, (le_spec_BoardFault_w_0 N _ _ _ _ KL N _).trans h⟩
    · cases h
noncomputable def g_spec_BoardFault_w (N : Nat) {R : Type} (n : Int) (n1 : Int) (b : Bool) (l : List Device) (k : Int → Option R) : Option R :=
  (oK (cond (decide ((n < (2 : Int))))
    (some true)
    (cond (decide ((n > (256 : Int))))
      (some true)
      (cond (decide ((n1 < (1 : Int))))
        (some true)
        (cond (decide ((n1 > (8 : Int))))
          (some true)
          (some (decide (((((List.length l) : Nat) : Int) > (16 : Int))))))))) fun j =>
  (cond j
  (k (1 : Int))
  (c_spec_BoardFault_w_0 N l n n1 b (0 : Int) (
    (k (1 : Int))) (
    (k (0 : Int))))))
theorem e_spec_BoardFault_w (N : Nat) {R : Type} (n : Int) (n1 : Int) (b : Bool) (l : List Device) (K : AV → Hp E → Option R) :
    runFnI (E := E) (O_spec_BoardFault_w N) (IT_spec_BoardFault_w_0 N) sl_spec_BoardFault_w J_spec_BoardFault_w Go.Proofs.Try.f51 [(AV.agg [(SV.int IntKind.i64 n), (SV.int IntKind.i64 n1), (SV.slc 0 none b)])] [(some (HE.mk false (HB.rows (B.iDevice l))))] K =
      g_spec_BoardFault_w N n n1 b l (fun n5 => K (AV.sc (SV.int IntKind.i64 n5)) [(some (HE.mk false (HB.rows (B.iDevice l))))]) := by kernel_rfl
noncomputable def o_spec_BoardFault_w (N : Nat) {R : Type} (args : List AV) (H : Hp E) (K : AV → Hp E → Option R) : Option R :=
  match args, H with
  | [(AV.agg [(SV.int IntKind.i64 n), (SV.int IntKind.i64 n1), (SV.slc 0 none b)])], [(some (HE.mk false (HB.rows (B.iDevice l))))] => g_spec_BoardFault_w N n n1 b l (fun n5 => K (AV.sc (SV.int IntKind.i64 n5)) [(some (HE.mk false (HB.rows (B.iDevice l))))])
  | _, _ => none
theorem o_spec_BoardFault_w_ok (N : Nat) : FnOk E 51 (o_spec_BoardFault_w N) := by
  intro R args H K r h
  unfold o_spec_BoardFault_w at h
  dsimp only at h
  split at h
  · exact fnB_ok (ids := [0]) (top := [0]) ok (O_spec_BoardFault_w_ok N) (jn_ok _ _ _) Go.Proofs.Try.func51 (by kernel_rfl) (IT := IT_spec_BoardFault_w_0 N) (sl := sl_spec_BoardFault_w) (J := J_spec_BoardFault_w) (K := K) (H := [(some (HE.mk false (HB.rows (B.iDevice _))))]) (IT_spec_BoardFault_w_0_ok N) (by kernel_rfl) rfl ((e_spec_BoardFault_w N _ _ _ _ K).trans h)
  · cases h
/-! ### loop.example/g00038/spec.Word -/
abbrev sl_spec_Word : SlotT := []
abbrev J_spec_Word : JT := jn [] [] []
noncomputable def O_spec_Word (N : Nat) : Orc E := addFn 73 (o_spec_l01Mod N) (noFn)
theorem O_spec_Word_ok (N : Nat) : OrcOk (O_spec_Word N) := addFn_ok (o_spec_l01Mod_ok N) (noFn_ok)
noncomputable def g_spec_Word (N : Nat) {R : Type} (n : Int) (k : Int → Option R) : Option R :=
  (g_spec_l01Mod N n (4294967296 : Int) fun n1 =>
  (k n1))
theorem e_spec_Word (N : Nat) {R : Type} (n : Int) (K : AV → Hp E → Option R) :
    runFnI (E := E) (O_spec_Word N) (noIt) sl_spec_Word J_spec_Word Go.Proofs.Try.f72 [(AV.sc (SV.int IntKind.i64 n))] [] K =
      g_spec_Word N n (fun n2 => K (AV.sc (SV.int IntKind.i64 n2)) []) := by kernel_rfl
noncomputable def o_spec_Word (N : Nat) {R : Type} (args : List AV) (H : Hp E) (K : AV → Hp E → Option R) : Option R :=
  match args, H with
  | [(AV.sc (SV.int IntKind.i64 n))], [] => g_spec_Word N n (fun n2 => K (AV.sc (SV.int IntKind.i64 n2)) [])
  | _, _ => none
theorem o_spec_Word_ok (N : Nat) : FnOk E 72 (o_spec_Word N) := by
  intro R args H K r h
  unfold o_spec_Word at h
  dsimp only at h
  split at h
  · exact fnB_ok (ids := []) (top := []) ok (O_spec_Word_ok N) (jn_ok _ _ _) Go.Proofs.Try.func72 (by kernel_rfl) (IT := noIt) (sl := sl_spec_Word) (J := J_spec_Word) (K := K) (H := []) (noIt_ok) (by kernel_rfl) rfl ((e_spec_Word N _ K).trans h)
  · cases h
/-! ### loop.example/g00038/spec.PutWord -/
abbrev sl_spec_PutWord : SlotT := []
abbrev J_spec_PutWord : JT := jn [] [] []
noncomputable def O_spec_PutWord (N : Nat) : Orc E := addFn 72 (o_spec_Word N) (noFn)
theorem O_spec_PutWord_ok (N : Nat) : OrcOk (O_spec_PutWord N) := addFn_ok (o_spec_Word_ok N) (noFn_ok)
noncomputable def g_spec_PutWord (N : Nat) {R : Type} (n : Int) (k : ByteArray → Option R) : Option R :=
  (g_spec_Word N n fun n1 =>
  (k (Go.Eng.toBytes (Go.Eng.seg [(IntKind.wrap IntKind.u8 n1), (IntKind.wrap IntKind.u8 (Int.fdiv n1 (256 : Int))), (IntKind.wrap IntKind.u8 (Int.fdiv n1 (65536 : Int))), (IntKind.wrap IntKind.u8 (Int.fdiv n1 (16777216 : Int)))] 0 (List.length [(IntKind.wrap IntKind.u8 n1), (IntKind.wrap IntKind.u8 (Int.fdiv n1 (256 : Int))), (IntKind.wrap IntKind.u8 (Int.fdiv n1 (65536 : Int))), (IntKind.wrap IntKind.u8 (Int.fdiv n1 (16777216 : Int)))])))))
theorem e_spec_PutWord (N : Nat) {R : Type} (n : Int) (K : AV → Hp E → Option R) :
    runFnI (E := E) (O_spec_PutWord N) (noIt) sl_spec_PutWord J_spec_PutWord Go.Proofs.Try.f31 [(AV.sc (SV.int IntKind.i64 n))] [] K =
      g_spec_PutWord N n (fun s => K (AV.sc (SV.str s)) []) := by kernel_rfl
noncomputable def o_spec_PutWord (N : Nat) {R : Type} (args : List AV) (H : Hp E) (K : AV → Hp E → Option R) : Option R :=
  match args, H with
  | [(AV.sc (SV.int IntKind.i64 n))], [] => g_spec_PutWord N n (fun s => K (AV.sc (SV.str s)) [])
  | _, _ => none
theorem o_spec_PutWord_ok (N : Nat) : FnOk E 31 (o_spec_PutWord N) := by
  intro R args H K r h
  unfold o_spec_PutWord at h
  dsimp only at h
  split at h
  · exact fnB_ok (ids := []) (top := []) ok (O_spec_PutWord_ok N) (jn_ok _ _ _) Go.Proofs.Try.func31 (by kernel_rfl) (IT := noIt) (sl := sl_spec_PutWord) (J := J_spec_PutWord) (K := K) (H := []) (noIt_ok) (by kernel_rfl) rfl ((e_spec_PutWord N _ K).trans h)
  · cases h
/-! ### loop.example/g00038/spec.TablesOf -/
abbrev sl_spec_TablesOf_w : SlotT := [(0, ([1, 3, 4], [1, 3]))]
abbrev J_spec_TablesOf_w : JT := jn [] [] []
noncomputable def O_spec_TablesOf_w (N : Nat) : Orc E := addFn 31 (o_spec_PutWord N) (addFn 51 (o_spec_BoardFault_w N) (noFn))
noncomputable def pa_spec_TablesOf_w__o_spec_PutWord (N : Nat) (G_spec_PutWord : ∀ {R : Type} (n : Int) (k : ByteArray → Option R), Option R) {R : Type} (args : List AV) (H : Hp E) (K : AV → Hp E → Option R) : Option R :=
  match args, H with
  | [(AV.sc (SV.int IntKind.i64 n))], [] => G_spec_PutWord n (fun s => K (AV.sc (SV.str s)) [])
  | _, _ => none
noncomputable def pa_spec_TablesOf_w__o_spec_BoardFault_w (N : Nat) (G_spec_BoardFault_w : ∀ {R : Type} (n : Int) (n1 : Int) (b : Bool) (l : List Device) (k : Int → Option R), Option R) {R : Type} (args : List AV) (H : Hp E) (K : AV → Hp E → Option R) : Option R :=
  match args, H with
  | [(AV.agg [(SV.int IntKind.i64 n), (SV.int IntKind.i64 n1), (SV.slc 0 none b)])], [(some (HE.mk false (HB.rows (B.iDevice l))))] => G_spec_BoardFault_w n n1 b l (fun n5 => K (AV.sc (SV.int IntKind.i64 n5)) [(some (HE.mk false (HB.rows (B.iDevice l))))])
  | _, _ => none
noncomputable def OA_spec_TablesOf_w (N : Nat) (G_spec_PutWord : ∀ {R : Type} (n : Int) (k : ByteArray → Option R), Option R) (G_spec_BoardFault_w : ∀ {R : Type} (n : Int) (n1 : Int) (b : Bool) (l : List Device) (k : Int → Option R), Option R) : Orc E := addFn 31 (pa_spec_TablesOf_w__o_spec_PutWord N G_spec_PutWord) (addFn 51 (pa_spec_TablesOf_w__o_spec_BoardFault_w N G_spec_BoardFault_w) (noFn))
theorem O_spec_TablesOf_w_ok (N : Nat) : OrcOk (O_spec_TablesOf_w N) := addFn_ok (o_spec_PutWord_ok N) (addFn_ok (o_spec_BoardFault_w_ok N) (noFn_ok))
noncomputable def s_spec_TablesOf_w_0 (N : Nat) {R : Type} (l1 : List Device) (n4 : Int) (n5 : Int) (b1 : Bool) (s : ByteArray) (n3 : Int) (ag : ByteArray → Int → Option R)  (kN : ByteArray → Option R) : Option R :=
  (cond (decide ((n3 < (((List.length l1) : Nat) : Int))))
  (cond ((decide (((0 : Int) ≤ n3))) && (decide ((n3 < (((List.length l1) : Nat) : Int)))))
    (elemK l1 (Int.toNat n3) fun x =>
      (g_spec_PutWord N (IntKind.wrap IntKind.i64 ((IntKind.wrap IntKind.i64 ((IntKind.wrap IntKind.i64 ((Device.fKind x) * (16777216 : Int))) + (IntKind.wrap IntKind.i64 ((Device.fLine x) * (65536 : Int))))) + (Device.fPort x))) fun s1 =>
      (cond (Nat.ble ((ByteArray.size s) + (ByteArray.size s1)) 9223372036854775807)
      (ag (s ++ s1) (IntKind.wrap IntKind.i64 (n3 + (1 : Int))))
      none)))
    none)
  (kN s))
noncomputable def ga_s_spec_TablesOf_w_0 (N : Nat) (G_spec_PutWord : ∀ {R : Type} (n : Int) (k : ByteArray → Option R), Option R) (G_spec_BoardFault_w : ∀ {R : Type} (n : Int) (n1 : Int) (b : Bool) (l : List Device) (k : Int → Option R), Option R) {R : Type} (l1 : List Device) (n4 : Int) (n5 : Int) (b1 : Bool) (s : ByteArray) (n3 : Int) (ag : ByteArray → Int → Option R)  (kN : ByteArray → Option R) : Option R :=
  (cond (decide ((n3 < (((List.length l1) : Nat) : Int))))
  (cond ((decide (((0 : Int) ≤ n3))) && (decide ((n3 < (((List.length l1) : Nat) : Int)))))
    (elemK l1 (Int.toNat n3) fun x =>
      (G_spec_PutWord (IntKind.wrap IntKind.i64 ((IntKind.wrap IntKind.i64 ((IntKind.wrap IntKind.i64 ((Device.fKind x) * (16777216 : Int))) + (IntKind.wrap IntKind.i64 ((Device.fLine x) * (65536 : Int))))) + (Device.fPort x))) fun s1 =>
      (cond (Nat.ble ((ByteArray.size s) + (ByteArray.size s1)) 9223372036854775807)
      (ag (s ++ s1) (IntKind.wrap IntKind.i64 (n3 + (1 : Int))))
      none)))
    none)
  (kN s))
noncomputable def l_spec_TablesOf_w_0 (N : Nat) {R : Type} (l1 : List Device) (n4 : Int) (n5 : Int) (b1 : Bool) (kN : ByteArray → Option R) : Nat → ByteArray → Int → Option R
  | 0, _, _ => none
  | f + 1, s, n3 => s_spec_TablesOf_w_0 N l1 n4 n5 b1 s n3 (fun s n3 => l_spec_TablesOf_w_0 N l1 n4 n5 b1 kN f s n3)  kN
noncomputable def c_spec_TablesOf_w_0 (N : Nat) {R : Type} (l1 : List Device) (n4 : Int) (n5 : Int) (b1 : Bool) (s : ByteArray) (n3 : Int) (kN : ByteArray → Option R) : Option R := l_spec_TablesOf_w_0 N l1 n4 n5 b1 kN N s n3
theorem ea_se_spec_TablesOf_w_0 (N : Nat) (G_spec_PutWord : ∀ {R : Type} (n : Int) (k : ByteArray → Option R), Option R) (G_spec_BoardFault_w : ∀ {R : Type} (n : Int) (n1 : Int) (b : Bool) (l : List Device) (k : Int → Option R), Option R) {R : Type} (l1 : List Device) (n4 : Int) (n5 : Int) (b1 : Bool) (s : ByteArray) (n3 : Int) (AG : List (Option AV) → Hp E → Option R) (KL : Ex → List (Option AV) → Hp E → Option R) :
    iterStep (E := E) (OA_spec_TablesOf_w N G_spec_PutWord G_spec_BoardFault_w) (fun {R} => LI (noIt) 1 46 sl_spec_TablesOf_w (R := R)) J_spec_TablesOf_w 1 46 0 [1, 3, 4] [1, 3] (body Go.Proofs.Try.f55 0) AG KL [(some (AV.sc (SV.ptr 1 0 0))), (some (AV.sc (SV.str s))), (some (AV.sc (SV.int IntKind.i64 n3)))] [(some (HE.mk false (HB.rows (B.iDevice l1)))), (some (HE.mk false (HB.exp none [(SV.int IntKind.i64 n4), (SV.int IntKind.i64 n5), (SV.slc 0 none b1)])))] =
      ga_s_spec_TablesOf_w_0 N G_spec_PutWord G_spec_BoardFault_w l1 n4 n5 b1 s n3 (fun s n3 => AG [(some (AV.sc (SV.ptr 1 0 0))), (some (AV.sc (SV.str s))), (some (AV.sc (SV.int IntKind.i64 n3)))] [(some (HE.mk false (HB.rows (B.iDevice l1)))), (some (HE.mk false (HB.exp none [(SV.int IntKind.i64 n4), (SV.int IntKind.i64 n5), (SV.slc 0 none b1)])))])  (fun s5 => KL Ex.normal [(some (AV.sc (SV.ptr 1 0 0))), (some (AV.sc (SV.str s5)))] [(some (HE.mk false (HB.rows (B.iDevice l1)))), (some (HE.mk false (HB.exp none [(SV.int IntKind.i64 n4), (SV.int IntKind.i64 n5), (SV.slc 0 none b1)])))]) := by kernel_rfl
theorem se_spec_TablesOf_w_0 (N : Nat) {R : Type} (l1 : List Device) (n4 : Int) (n5 : Int) (b1 : Bool) (s : ByteArray) (n3 : Int) (AG : List (Option AV) → Hp E → Option R) (KL : Ex → List (Option AV) → Hp E → Option R) :
    iterStep (E := E) (O_spec_TablesOf_w N) (fun {R} => LI (noIt) 1 46 sl_spec_TablesOf_w (R := R)) J_spec_TablesOf_w 1 46 0 [1, 3, 4] [1, 3] (body Go.Proofs.Try.f55 0) AG KL [(some (AV.sc (SV.ptr 1 0 0))), (some (AV.sc (SV.str s))), (some (AV.sc (SV.int IntKind.i64 n3)))] [(some (HE.mk false (HB.rows (B.iDevice l1)))), (some (HE.mk false (HB.exp none [(SV.int IntKind.i64 n4), (SV.int IntKind.i64 n5), (SV.slc 0 none b1)])))] =
      s_spec_TablesOf_w_0 N l1 n4 n5 b1 s n3 (fun s n3 => AG [(some (AV.sc (SV.ptr 1 0 0))), (some (AV.sc (SV.str s))), (some (AV.sc (SV.int IntKind.i64 n3)))] [(some (HE.mk false (HB.rows (B.iDevice l1)))), (some (HE.mk false (HB.exp none [(SV.int IntKind.i64 n4), (SV.int IntKind.i64 n5), (SV.slc 0 none b1)])))])  (fun s5 => KL Ex.normal [(some (AV.sc (SV.ptr 1 0 0))), (some (AV.sc (SV.str s5)))] [(some (HE.mk false (HB.rows (B.iDevice l1)))), (some (HE.mk false (HB.exp none [(SV.int IntKind.i64 n4), (SV.int IntKind.i64 n5), (SV.slc 0 none b1)])))]) := castPr (by kernel_rfl) (ea_se_spec_TablesOf_w_0 N (g_spec_PutWord N) (g_spec_BoardFault_w N) l1 n4 n5 b1 s n3 AG KL)
theorem le_spec_TablesOf_w_0 (N : Nat) {R : Type} (l1 : List Device) (n4 : Int) (n5 : Int) (b1 : Bool) (KL : Ex → List (Option AV) → Hp E → Option R) : ∀ (f : Nat), ∀ (s : ByteArray) (n3 : Int), iterK (E := E) (O_spec_TablesOf_w N) (fun {R} => LI (noIt) 1 46 sl_spec_TablesOf_w (R := R)) J_spec_TablesOf_w 1 46 0 [1, 3, 4] [1, 3] (body Go.Proofs.Try.f55 0) f [(some (AV.sc (SV.ptr 1 0 0))), (some (AV.sc (SV.str s))), (some (AV.sc (SV.int IntKind.i64 n3)))] [(some (HE.mk false (HB.rows (B.iDevice l1)))), (some (HE.mk false (HB.exp none [(SV.int IntKind.i64 n4), (SV.int IntKind.i64 n5), (SV.slc 0 none b1)])))] KL = l_spec_TablesOf_w_0 N l1 n4 n5 b1 (fun s5 => KL Ex.normal [(some (AV.sc (SV.ptr 1 0 0))), (some (AV.sc (SV.str s5)))] [(some (HE.mk false (HB.rows (B.iDevice l1)))), (some (HE.mk false (HB.exp none [(SV.int IntKind.i64 n4), (SV.int IntKind.i64 n5), (SV.slc 0 none b1)])))]) f s n3 := by
  intro f
  induction f with
  | zero => intros; rfl
  | succ f ih =>
    intro s n3
    rw [iterK_succ, se_spec_TablesOf_w_0]
    exact (congrArg (fun z0 => s_spec_TablesOf_w_0 N l1 n4 n5 b1 s n3 z0 (fun s5 => KL Ex.normal [(some (AV.sc (SV.ptr 1 0 0))), (some (AV.sc (SV.str s5)))] [(some (HE.mk false (HB.rows (B.iDevice l1)))), (some (HE.mk false (HB.exp none [(SV.int IntKind.i64 n4), (SV.int IntKind.i64 n5), (SV.slc 0 none b1)])))])) (funext fun s => funext fun n3 => ih s n3))
noncomputable def i_spec_TablesOf_w_0 (N : Nat) {R : Type} (vs : List (Option AV)) (H : Hp E) (KL : Ex → List (Option AV) → Hp E → Option R) : Option R :=
  match vs, H with
  | [(some (AV.sc (SV.ptr 1 0 0))), (some (AV.sc (SV.str s))), (some (AV.sc (SV.int IntKind.i64 n3)))], [(some (HE.mk false (HB.rows (B.iDevice l1)))), (some (HE.mk false (HB.exp none [(SV.int IntKind.i64 n4), (SV.int IntKind.i64 n5), (SV.slc 0 none b1)])))] => c_spec_TablesOf_w_0 N l1 n4 n5 b1 s n3 (fun s6 => KL Ex.normal [(some (AV.sc (SV.ptr 1 0 0))), (some (AV.sc (SV.str s6)))] [(some (HE.mk false (HB.rows (B.iDevice l1)))), (some (HE.mk false (HB.exp none [(SV.int IntKind.i64 n4), (SV.int IntKind.i64 n5), (SV.slc 0 none b1)])))])
  | _, _ => none
noncomputable def IT_spec_TablesOf_w_0 (N : Nat) : Its E := addIt 0 (i_spec_TablesOf_w_0 N) (noIt)
theorem IT_spec_TablesOf_w_0_ok (N : Nat) : ItOk (IT_spec_TablesOf_w_0 N) 1 46 sl_spec_TablesOf_w (lsB Go.Proofs.Try.f55 [0]) :=
  addItB_ok (inner := []) ok (O_spec_TablesOf_w_ok N) (jn_ok _ _ _) (noIt_ok) rfl (by kernel_rfl) rfl fun vs H KL r h => by
    unfold i_spec_TablesOf_w_0 at h
    split at h
    · exact ⟨_, (le_spec_TablesOf_w_0 N _ _ _ _ KL N _ _).trans h⟩
    · cases h
noncomputable def g_spec_TablesOf_w (N : Nat) {R : Type} (n : Int) (n1 : Int) (b : Bool) (l : List Device) (k : (List FirmTable) → Option R) : Option R :=
  (g_spec_BoardFault_w N n n1 b l fun n2 =>
  (cond (n2 != (0 : Int))
  (k [])
  (c_spec_TablesOf_w_0 N l n n1 b (ByteArray.mk (List.toArray [])) (0 : Int) fun s2 =>
    (g_spec_PutWord N n fun s3 =>
    (g_spec_PutWord N n1 fun s4 =>
    (k [(FirmTable.mk (ByteArray.mk (List.toArray [(77 : UInt8), (69 : UInt8), (77 : UInt8), (79 : UInt8)])) (1 : Int) s3), (FirmTable.mk (ByteArray.mk (List.toArray [(67 : UInt8), (80 : UInt8), (85 : UInt8), (83 : UInt8)])) (1 : Int) s4), (FirmTable.mk (ByteArray.mk (List.toArray [(68 : UInt8), (69 : UInt8), (86 : UInt8), (83 : UInt8)])) (1 : Int) s2)]))))))
noncomputable def ga_g_spec_TablesOf_w (N : Nat) (G_spec_PutWord : ∀ {R : Type} (n : Int) (k : ByteArray → Option R), Option R) (G_spec_BoardFault_w : ∀ {R : Type} (n : Int) (n1 : Int) (b : Bool) (l : List Device) (k : Int → Option R), Option R) {R : Type} (n : Int) (n1 : Int) (b : Bool) (l : List Device) (k : (List FirmTable) → Option R) : Option R :=
  (G_spec_BoardFault_w n n1 b l fun n2 =>
  (cond (n2 != (0 : Int))
  (k [])
  (c_spec_TablesOf_w_0 N l n n1 b (ByteArray.mk (List.toArray [])) (0 : Int) fun s2 =>
    (G_spec_PutWord n fun s3 =>
    (G_spec_PutWord n1 fun s4 =>
    (k [(FirmTable.mk (ByteArray.mk (List.toArray [(77 : UInt8), (69 : UInt8), (77 : UInt8), (79 : UInt8)])) (1 : Int) s3), (FirmTable.mk (ByteArray.mk (List.toArray [(67 : UInt8), (80 : UInt8), (85 : UInt8), (83 : UInt8)])) (1 : Int) s4), (FirmTable.mk (ByteArray.mk (List.toArray [(68 : UInt8), (69 : UInt8), (86 : UInt8), (83 : UInt8)])) (1 : Int) s2)]))))))
theorem ea_e_spec_TablesOf_w (N : Nat) (G_spec_PutWord : ∀ {R : Type} (n : Int) (k : ByteArray → Option R), Option R) (G_spec_BoardFault_w : ∀ {R : Type} (n : Int) (n1 : Int) (b : Bool) (l : List Device) (k : Int → Option R), Option R) {R : Type} (n : Int) (n1 : Int) (b : Bool) (l : List Device) (K : AV → Hp E → Option R) :
    runFnI (E := E) (OA_spec_TablesOf_w N G_spec_PutWord G_spec_BoardFault_w) (IT_spec_TablesOf_w_0 N) sl_spec_TablesOf_w J_spec_TablesOf_w Go.Proofs.Try.f55 [(AV.agg [(SV.int IntKind.i64 n), (SV.int IntKind.i64 n1), (SV.slc 0 none b)])] [(some (HE.mk false (HB.rows (B.iDevice l))))] K =
      ga_g_spec_TablesOf_w N G_spec_PutWord G_spec_BoardFault_w n n1 b l (fun l2 => K (AV.sc (SV.slc 1 none false)) [(some (HE.mk false (HB.rows (B.iDevice l)))), (some (HE.mk false (HB.rows (B.iFirmTable l2))))]) := by kernel_rfl
theorem e_spec_TablesOf_w (N : Nat) {R : Type} (n : Int) (n1 : Int) (b : Bool) (l : List Device) (K : AV → Hp E → Option R) :
    runFnI (E := E) (O_spec_TablesOf_w N) (IT_spec_TablesOf_w_0 N) sl_spec_TablesOf_w J_spec_TablesOf_w Go.Proofs.Try.f55 [(AV.agg [(SV.int IntKind.i64 n), (SV.int IntKind.i64 n1), (SV.slc 0 none b)])] [(some (HE.mk false (HB.rows (B.iDevice l))))] K =
      g_spec_TablesOf_w N n n1 b l (fun l2 => K (AV.sc (SV.slc 1 none false)) [(some (HE.mk false (HB.rows (B.iDevice l)))), (some (HE.mk false (HB.rows (B.iFirmTable l2))))]) := castPr (by kernel_rfl) (ea_e_spec_TablesOf_w N (g_spec_PutWord N) (g_spec_BoardFault_w N) n n1 b l K)
noncomputable def o_spec_TablesOf_w (N : Nat) {R : Type} (args : List AV) (H : Hp E) (K : AV → Hp E → Option R) : Option R :=
  match args, H with
  | [(AV.agg [(SV.int IntKind.i64 n), (SV.int IntKind.i64 n1), (SV.slc 0 none b)])], [(some (HE.mk false (HB.rows (B.iDevice l))))] => g_spec_TablesOf_w N n n1 b l (fun l2 => K (AV.sc (SV.slc 1 none false)) [(some (HE.mk false (HB.rows (B.iDevice l)))), (some (HE.mk false (HB.rows (B.iFirmTable l2))))])
  | _, _ => none
theorem o_spec_TablesOf_w_ok (N : Nat) : FnOk E 55 (o_spec_TablesOf_w N) := by
  intro R args H K r h
  unfold o_spec_TablesOf_w at h
  dsimp only at h
  split at h
  · exact fnB_ok (ids := [0]) (top := [0]) ok (O_spec_TablesOf_w_ok N) (jn_ok _ _ _) Go.Proofs.Try.func55 (by kernel_rfl) (IT := IT_spec_TablesOf_w_0 N) (sl := sl_spec_TablesOf_w) (J := J_spec_TablesOf_w) (K := K) (H := [(some (HE.mk false (HB.rows (B.iDevice _))))]) (IT_spec_TablesOf_w_0_ok N) (by kernel_rfl) rfl ((e_spec_TablesOf_w N _ _ _ _ K).trans h)
  · cases h
/-! ### loop.example/g00038/spec.MemFault -/
abbrev sl_spec_MemFault : SlotT := []
abbrev J_spec_MemFault : JT := jn [(1, [(16, .b)])] [] []
noncomputable def O_spec_MemFault (N : Nat) : Orc E := noFn
theorem O_spec_MemFault_ok (N : Nat) : OrcOk (O_spec_MemFault N) := noFn_ok
noncomputable def g_spec_MemFault (N : Nat) {R : Type} (s : ByteArray) (k : Int → Option R) : Option R :=
  (oK (cond ((((ByteArray.size s) : Nat) : Int) == (0 : Int))
    (some true)
    (cond ((Int.tmod (((ByteArray.size s) : Nat) : Int) (256 : Int)) != (0 : Int))
      (some true)
      (some (decide (((((ByteArray.size s) : Nat) : Int) > (65536 : Int))))))) fun j =>
  (cond j
  (k (1 : Int))
  (k (0 : Int))))
theorem e_spec_MemFault (N : Nat) {R : Type} (s : ByteArray) (K : AV → Hp E → Option R) :
    runFnI (E := E) (O_spec_MemFault N) (noIt) sl_spec_MemFault J_spec_MemFault Go.Proofs.Try.f67 [(AV.sc (SV.str s))] [] K =
      g_spec_MemFault N s (fun n => K (AV.sc (SV.int IntKind.i64 n)) []) := by kernel_rfl
noncomputable def o_spec_MemFault (N : Nat) {R : Type} (args : List AV) (H : Hp E) (K : AV → Hp E → Option R) : Option R :=
  match args, H with
  | [(AV.sc (SV.str s))], [] => g_spec_MemFault N s (fun n => K (AV.sc (SV.int IntKind.i64 n)) [])
  | _, _ => none
theorem o_spec_MemFault_ok (N : Nat) : FnOk E 67 (o_spec_MemFault N) := by
  intro R args H K r h
  unfold o_spec_MemFault at h
  dsimp only at h
  split at h
  · exact fnB_ok (ids := []) (top := []) ok (O_spec_MemFault_ok N) (jn_ok _ _ _) Go.Proofs.Try.func67 (by kernel_rfl) (IT := noIt) (sl := sl_spec_MemFault) (J := J_spec_MemFault) (K := K) (H := []) (noIt_ok) (by kernel_rfl) rfl ((e_spec_MemFault N _ K).trans h)
  · cases h
end Go.Sa
