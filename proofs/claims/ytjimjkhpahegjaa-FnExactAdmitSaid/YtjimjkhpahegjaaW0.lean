import Derived.Test.YtjimjkhpahegjaaEnv
import Derived.Test.YtjimjkhpahegjaaPL
set_option linter.all false
namespace Go.Sa
open Go Go.Eng Go.Proofs
set_option maxRecDepth 100000
/-! ### loop.example/g00038/impl.yin -/
abbrev sl_impl_yin : SlotT := []
abbrev J_impl_yin : JT := jn [(1, [(6, .b)])] []
noncomputable def O_impl_yin (N : Nat) : Orc E := noFn
theorem O_impl_yin_ok (N : Nat) : OrcOk (O_impl_yin N) := noFn_ok
def g_impl_yin (N : Nat) {R : Type} (n : Int) (n1 : Int) (n2 : Int) (k : Bool → Option R) : Option R :=
  (oK (cond (decide ((n ≥ n1)))
    (some (decide ((n ≤ n2))))
    (some Bool.false)) fun j =>
  (k j))
theorem e_impl_yin (N : Nat) {R : Type} (n : Int) (n1 : Int) (n2 : Int) (K : AV → Hp E → Option R) :
    runFnI (E := E) (O_impl_yin N) (noIt) sl_impl_yin J_impl_yin Go.Proofs.Try.f71 [(Go.Eng.AV.sc (Go.Eng.SV.int Go.IntKind.i64 n)), (Go.Eng.AV.sc (Go.Eng.SV.int Go.IntKind.i64 n1)), (Go.Eng.AV.sc (Go.Eng.SV.int Go.IntKind.i64 n2))] [] K =
      g_impl_yin N n n1 n2 (fun b => K (Go.Eng.AV.sc (Go.Eng.SV.bool b)) []) := by kernel_rfl
def o_impl_yin (N : Nat) {R : Type} (args : List AV) (H : Hp E) (K : AV → Hp E → Option R) : Option R :=
  match args, H with
  | [(Go.Eng.AV.sc (Go.Eng.SV.int Go.IntKind.i64 n)), (Go.Eng.AV.sc (Go.Eng.SV.int Go.IntKind.i64 n1)), (Go.Eng.AV.sc (Go.Eng.SV.int Go.IntKind.i64 n2))], [] => g_impl_yin N n n1 n2 (fun b => K (Go.Eng.AV.sc (Go.Eng.SV.bool b)) [])
  | _, _ => none
theorem o_impl_yin_ok (N : Nat) : FnOk E 71 (o_impl_yin N) := by
  intro R args H K r h
  unfold o_impl_yin at h
  dsimp only at h
  split at h
  · exact fnB_ok (ids := []) (top := []) ok (O_impl_yin_ok N) (jn_ok _ _) Go.Proofs.Try.func71 (by kernel_rfl) (IT := noIt) (sl := sl_impl_yin) (J := J_impl_yin) (K := K) (H := []) (noIt_ok) (by kernel_rfl) rfl ((e_impl_yin N _ _ _ K).trans h)
  · cases h
/-! ### loop.example/g00038/laws.szRtTaskS -/
abbrev sl_laws_szRtTaskS_r : SlotT := []
abbrev J_laws_szRtTaskS_r : JT := jn [] []
noncomputable def O_laws_szRtTaskS_r (N : Nat) : Orc E := noFn
theorem O_laws_szRtTaskS_r_ok (N : Nat) : OrcOk (O_laws_szRtTaskS_r N) := noFn_ok
def g_laws_szRtTaskS_r (N : Nat) {R : Type} (b : Bool) (n : Int) (l : List Go.Sa.RtTask) (k : Int → Option R) : Option R :=
  (cond (decide (((Go.IntKind.wrap Go.IntKind.i64 (n - (((List.length l) : Nat) : Int))) < (0 : Int))))
  (k (-(1 : Int)))
  (k (Go.IntKind.wrap Go.IntKind.i64 (n - (((List.length l) : Nat) : Int)))))
theorem e_laws_szRtTaskS_r (N : Nat) {R : Type} (b : Bool) (n : Int) (l : List Go.Sa.RtTask) (K : AV → Hp E → Option R) :
    runFnI (E := E) (O_laws_szRtTaskS_r N) (noIt) sl_laws_szRtTaskS_r J_laws_szRtTaskS_r Go.Proofs.Try.f34 [(Go.Eng.AV.sc (Go.Eng.SV.slc 0 Option.none b)), (Go.Eng.AV.sc (Go.Eng.SV.int Go.IntKind.i64 n))] [(Option.some (Go.Eng.HE.mk Bool.true (Go.Eng.HB.rows (Go.Sa.B.lRtTask l))))] K =
      g_laws_szRtTaskS_r N b n l (fun n1 => K (Go.Eng.AV.sc (Go.Eng.SV.int Go.IntKind.i64 n1)) [(Option.some (Go.Eng.HE.mk Bool.true (Go.Eng.HB.rows (Go.Sa.B.lRtTask l))))]) := by kernel_rfl
def o_laws_szRtTaskS_r (N : Nat) {R : Type} (args : List AV) (H : Hp E) (K : AV → Hp E → Option R) : Option R :=
  match args, H with
  | [(Go.Eng.AV.sc (Go.Eng.SV.slc 0 Option.none b)), (Go.Eng.AV.sc (Go.Eng.SV.int Go.IntKind.i64 n))], [(Option.some (Go.Eng.HE.mk Bool.true (Go.Eng.HB.rows (Go.Sa.B.lRtTask l))))] => g_laws_szRtTaskS_r N b n l (fun n1 => K (Go.Eng.AV.sc (Go.Eng.SV.int Go.IntKind.i64 n1)) [(Option.some (Go.Eng.HE.mk Bool.true (Go.Eng.HB.rows (Go.Sa.B.lRtTask l))))])
  | _, _ => none
theorem o_laws_szRtTaskS_r_ok (N : Nat) : FnOk E 34 (o_laws_szRtTaskS_r N) := by
  intro R args H K r h
  unfold o_laws_szRtTaskS_r at h
  dsimp only at h
  split at h
  · exact fnB_ok (ids := []) (top := []) ok (O_laws_szRtTaskS_r_ok N) (jn_ok _ _) Go.Proofs.Try.func34 (by kernel_rfl) (IT := noIt) (sl := sl_laws_szRtTaskS_r) (J := J_laws_szRtTaskS_r) (K := K) (H := [(Option.some (Go.Eng.HE.mk Bool.true (Go.Eng.HB.rows (Go.Sa.B.lRtTask _))))]) (noIt_ok) (by kernel_rfl) rfl ((e_laws_szRtTaskS_r N _ _ _ K).trans h)
  · cases h
/-! ### loop.example/g00038/laws.toRtTask -/
abbrev sl_laws_toRtTask : SlotT := []
abbrev J_laws_toRtTask : JT := jn [] []
noncomputable def O_laws_toRtTask (N : Nat) : Orc E := noFn
theorem O_laws_toRtTask_ok (N : Nat) : OrcOk (O_laws_toRtTask N) := noFn_ok
def g_laws_toRtTask (N : Nat) {R : Type} (n : Int) (n1 : Int) (n2 : Int) (k : Option R) : Option R :=
  k
theorem e_laws_toRtTask (N : Nat) {R : Type} (n : Int) (n1 : Int) (n2 : Int) (K : AV → Hp E → Option R) :
    runFnI (E := E) (O_laws_toRtTask N) (noIt) sl_laws_toRtTask J_laws_toRtTask Go.Proofs.Try.f83 [(Go.Eng.AV.agg [(Go.Eng.SV.int Go.IntKind.i64 n), (Go.Eng.SV.int Go.IntKind.i64 n1), (Go.Eng.SV.int Go.IntKind.i64 n2)])] [] K =
      g_laws_toRtTask N n n1 n2 (K (Go.Eng.AV.agg [(Go.Eng.SV.int Go.IntKind.i64 n), (Go.Eng.SV.int Go.IntKind.i64 n1), (Go.Eng.SV.int Go.IntKind.i64 n2)]) []) := by kernel_rfl
def o_laws_toRtTask (N : Nat) {R : Type} (args : List AV) (H : Hp E) (K : AV → Hp E → Option R) : Option R :=
  match args, H with
  | [(Go.Eng.AV.agg [(Go.Eng.SV.int Go.IntKind.i64 n), (Go.Eng.SV.int Go.IntKind.i64 n1), (Go.Eng.SV.int Go.IntKind.i64 n2)])], [] => g_laws_toRtTask N n n1 n2 (K (Go.Eng.AV.agg [(Go.Eng.SV.int Go.IntKind.i64 n), (Go.Eng.SV.int Go.IntKind.i64 n1), (Go.Eng.SV.int Go.IntKind.i64 n2)]) [])
  | _, _ => none
theorem o_laws_toRtTask_ok (N : Nat) : FnOk E 83 (o_laws_toRtTask N) := by
  intro R args H K r h
  unfold o_laws_toRtTask at h
  dsimp only at h
  split at h
  · exact fnB_ok (ids := []) (top := []) ok (O_laws_toRtTask_ok N) (jn_ok _ _) Go.Proofs.Try.func83 (by kernel_rfl) (IT := noIt) (sl := sl_laws_toRtTask) (J := J_laws_toRtTask) (K := K) (H := []) (noIt_ok) (by kernel_rfl) rfl ((e_laws_toRtTask N _ _ _ K).trans h)
  · cases h
/-! ### loop.example/g00038/laws.toRtTaskS -/
abbrev sl_laws_toRtTaskS_r : SlotT := [(0, ([0, 3, 4], [3]))]
abbrev J_laws_toRtTaskS_r : JT := jn [] []
noncomputable def O_laws_toRtTaskS_r (N : Nat) : Orc E := addFn 83 (o_laws_toRtTask N) (noFn)
theorem O_laws_toRtTaskS_r_ok (N : Nat) : OrcOk (O_laws_toRtTaskS_r N) := addFn_ok (o_laws_toRtTask_ok N) (noFn_ok)
def s_laws_toRtTaskS_r_0 (N : Nat) {R : Type} (b1 : Bool) (b2 : Bool) (l1 : List Go.Sa.RtTask) (n : Int) (l2 : List Go.Sa.RtTask) (ag : Int → (List Go.Sa.RtTask) → Option R) (kN : (List Go.Sa.RtTask) → Option R) : Option R :=
  (cond (decide ((n < (((List.length l1) : Nat) : Int))))
  (cond ((decide (((0 : Int) ≤ n))) && (decide ((n < (((List.length l1) : Nat) : Int)))))
    (elemK l1 (Int.toNat n) fun x =>
      (g_laws_toRtTask N (Go.Sa.RtTask.fStart x) (Go.Sa.RtTask.fPeriod x) (Go.Sa.RtTask.fBudget x) 
      (cond ((decide (((0 : Int) ≤ n))) && (decide ((n < (((List.length l2) : Nat) : Int)))))
      (elemK l2 (Int.toNat n) fun x1 =>
        (cond (Nat.blt (Int.toNat n) (List.length l2))
        (ag (Go.IntKind.wrap Go.IntKind.i64 (n + (1 : Int))) (Go.Eng.nset l2 (Int.toNat n) (Go.Sa.RtTask.mk (Go.Sa.RtTask.fStart x) (Go.Sa.RtTask.fPeriod x) (Go.Sa.RtTask.fBudget x))))
        none))
      none)))
    none)
  (kN l2))
def l_laws_toRtTaskS_r_0 (N : Nat) {R : Type} (b1 : Bool) (b2 : Bool) (l1 : List Go.Sa.RtTask) (kN : (List Go.Sa.RtTask) → Option R) : Nat → Int → (List Go.Sa.RtTask) → Option R
  | 0, _, _ => none
  | f + 1, n, l2 => s_laws_toRtTaskS_r_0 N b1 b2 l1 n l2 (fun n l2 => l_laws_toRtTaskS_r_0 N b1 b2 l1 kN f n l2) kN
def c_laws_toRtTaskS_r_0 (N : Nat) {R : Type} (b1 : Bool) (b2 : Bool) (l1 : List Go.Sa.RtTask) (n : Int) (l2 : List Go.Sa.RtTask) (kN : (List Go.Sa.RtTask) → Option R) : Option R := l_laws_toRtTaskS_r_0 N b1 b2 l1 kN N n l2
theorem se_laws_toRtTaskS_r_0 (N : Nat) {R : Type} (b1 : Bool) (b2 : Bool) (l1 : List Go.Sa.RtTask) (n : Int) (l2 : List Go.Sa.RtTask) (AG : List (Option AV) → Hp E → Option R) (KL : Ex → List (Option AV) → Hp E → Option R) :
    iterStep (E := E) (O_laws_toRtTaskS_r N) (fun {R} => LI (noIt) 1 23 sl_laws_toRtTaskS_r (R := R)) J_laws_toRtTaskS_r 1 23 0 [0, 3, 4] [3] (body Go.Proofs.Try.f36 0) AG KL [(Option.some (Go.Eng.AV.sc (Go.Eng.SV.slc 0 Option.none b1))), (Option.some (Go.Eng.AV.sc (Go.Eng.SV.slc 1 Option.none b2))), (Option.some (Go.Eng.AV.sc (Go.Eng.SV.int Go.IntKind.i64 n)))] [(Option.some (Go.Eng.HE.mk Bool.true (Go.Eng.HB.rows (Go.Sa.B.lRtTask l1)))), (Option.some (Go.Eng.HE.mk Bool.false (Go.Eng.HB.rows (Go.Sa.B.iRtTask l2))))] =
      s_laws_toRtTaskS_r_0 N b1 b2 l1 n l2 (fun n l2 => AG [(Option.some (Go.Eng.AV.sc (Go.Eng.SV.slc 0 Option.none b1))), (Option.some (Go.Eng.AV.sc (Go.Eng.SV.slc 1 Option.none b2))), (Option.some (Go.Eng.AV.sc (Go.Eng.SV.int Go.IntKind.i64 n)))] [(Option.some (Go.Eng.HE.mk Bool.true (Go.Eng.HB.rows (Go.Sa.B.lRtTask l1)))), (Option.some (Go.Eng.HE.mk Bool.false (Go.Eng.HB.rows (Go.Sa.B.iRtTask l2))))]) (fun l3 => KL Go.Eng.Ex.normal [(Option.some (Go.Eng.AV.sc (Go.Eng.SV.slc 1 Option.none b2)))] [(Option.some (Go.Eng.HE.mk Bool.true (Go.Eng.HB.rows (Go.Sa.B.lRtTask l1)))), (Option.some (Go.Eng.HE.mk Bool.false (Go.Eng.HB.rows (Go.Sa.B.iRtTask l3))))]) := by kernel_rfl
theorem le_laws_toRtTaskS_r_0 (N : Nat) {R : Type} (b1 : Bool) (b2 : Bool) (l1 : List Go.Sa.RtTask) (KL : Ex → List (Option AV) → Hp E → Option R) : ∀ (f : Nat), ∀ (n : Int) (l2 : List Go.Sa.RtTask), iterK (E := E) (O_laws_toRtTaskS_r N) (fun {R} => LI (noIt) 1 23 sl_laws_toRtTaskS_r (R := R)) J_laws_toRtTaskS_r 1 23 0 [0, 3, 4] [3] (body Go.Proofs.Try.f36 0) f [(Option.some (Go.Eng.AV.sc (Go.Eng.SV.slc 0 Option.none b1))), (Option.some (Go.Eng.AV.sc (Go.Eng.SV.slc 1 Option.none b2))), (Option.some (Go.Eng.AV.sc (Go.Eng.SV.int Go.IntKind.i64 n)))] [(Option.some (Go.Eng.HE.mk Bool.true (Go.Eng.HB.rows (Go.Sa.B.lRtTask l1)))), (Option.some (Go.Eng.HE.mk Bool.false (Go.Eng.HB.rows (Go.Sa.B.iRtTask l2))))] KL = l_laws_toRtTaskS_r_0 N b1 b2 l1 (fun l3 => KL Go.Eng.Ex.normal [(Option.some (Go.Eng.AV.sc (Go.Eng.SV.slc 1 Option.none b2)))] [(Option.some (Go.Eng.HE.mk Bool.true (Go.Eng.HB.rows (Go.Sa.B.lRtTask l1)))), (Option.some (Go.Eng.HE.mk Bool.false (Go.Eng.HB.rows (Go.Sa.B.iRtTask l3))))]) f n l2 := by
  intro f
  induction f with
  | zero => intros; rfl
  | succ f ih =>
    intro n l2
    rw [iterK_succ, se_laws_toRtTaskS_r_0]
    exact congrArg (fun ag => s_laws_toRtTaskS_r_0 N b1 b2 l1 n l2 ag (fun l3 => KL Go.Eng.Ex.normal [(Option.some (Go.Eng.AV.sc (Go.Eng.SV.slc 1 Option.none b2)))] [(Option.some (Go.Eng.HE.mk Bool.true (Go.Eng.HB.rows (Go.Sa.B.lRtTask l1)))), (Option.some (Go.Eng.HE.mk Bool.false (Go.Eng.HB.rows (Go.Sa.B.iRtTask l3))))])) (funext fun n => funext fun l2 => ih n l2)
def i_laws_toRtTaskS_r_0 (N : Nat) {R : Type} (vs : List (Option AV)) (H : Hp E) (KL : Ex → List (Option AV) → Hp E → Option R) : Option R :=
  match vs, H with
  | [(Option.some (Go.Eng.AV.sc (Go.Eng.SV.slc 0 Option.none b1))), (Option.some (Go.Eng.AV.sc (Go.Eng.SV.slc 1 Option.none b2))), (Option.some (Go.Eng.AV.sc (Go.Eng.SV.int Go.IntKind.i64 n)))], [(Option.some (Go.Eng.HE.mk Bool.true (Go.Eng.HB.rows (Go.Sa.B.lRtTask l1)))), (Option.some (Go.Eng.HE.mk Bool.false (Go.Eng.HB.rows (Go.Sa.B.iRtTask l2))))] => c_laws_toRtTaskS_r_0 N b1 b2 l1 n l2 (fun l3 => KL Go.Eng.Ex.normal [(Option.some (Go.Eng.AV.sc (Go.Eng.SV.slc 1 Option.none b2)))] [(Option.some (Go.Eng.HE.mk Bool.true (Go.Eng.HB.rows (Go.Sa.B.lRtTask l1)))), (Option.some (Go.Eng.HE.mk Bool.false (Go.Eng.HB.rows (Go.Sa.B.iRtTask l3))))])
  | _, _ => none
noncomputable def IT_laws_toRtTaskS_r_0 (N : Nat) : Its E := addIt 0 (i_laws_toRtTaskS_r_0 N) (noIt)
theorem IT_laws_toRtTaskS_r_0_ok (N : Nat) : ItOk (IT_laws_toRtTaskS_r_0 N) 1 23 sl_laws_toRtTaskS_r (lsB Go.Proofs.Try.f36 [0]) :=
  addItB_ok (inner := []) ok (O_laws_toRtTaskS_r_ok N) (jn_ok _ _) (noIt_ok) rfl (by kernel_rfl) rfl fun vs H KL r h => by
    unfold i_laws_toRtTaskS_r_0 at h
    split at h
    · exact ⟨_, (le_laws_toRtTaskS_r_0 N _ _ _ KL N _ _).trans h⟩
    · cases h
def g_laws_toRtTaskS_r (N : Nat) {R : Type} (b : Bool) (l : List Go.Sa.RtTask) (k : (List Go.Sa.RtTask) → Option R) : Option R :=
  (cond (((decide (((((List.length l) : Nat) : Int) = (((List.length l) : Nat) : Int)))) && Bool.true) && (Go.Eng.roomOk (Int.toNat (((List.length l) : Nat) : Int)) 24))
  (c_laws_toRtTaskS_r_0 N b Bool.false l (0 : Int) (List.replicate (Int.toNat (((List.length l) : Nat) : Int)) (Go.Sa.RtTask.mk (0 : Int) (0 : Int) (0 : Int))) fun l4 =>
    (k l4))
  none)
theorem e_laws_toRtTaskS_r (N : Nat) {R : Type} (b : Bool) (l : List Go.Sa.RtTask) (K : AV → Hp E → Option R) :
    runFnI (E := E) (O_laws_toRtTaskS_r N) (IT_laws_toRtTaskS_r_0 N) sl_laws_toRtTaskS_r J_laws_toRtTaskS_r Go.Proofs.Try.f36 [(Go.Eng.AV.sc (Go.Eng.SV.slc 0 Option.none b))] [(Option.some (Go.Eng.HE.mk Bool.true (Go.Eng.HB.rows (Go.Sa.B.lRtTask l))))] K =
      g_laws_toRtTaskS_r N b l (fun l5 => K (Go.Eng.AV.sc (Go.Eng.SV.slc 1 Option.none Bool.false)) [(Option.some (Go.Eng.HE.mk Bool.true (Go.Eng.HB.rows (Go.Sa.B.lRtTask l)))), (Option.some (Go.Eng.HE.mk Bool.false (Go.Eng.HB.rows (Go.Sa.B.iRtTask l5))))]) := by kernel_rfl
def o_laws_toRtTaskS_r (N : Nat) {R : Type} (args : List AV) (H : Hp E) (K : AV → Hp E → Option R) : Option R :=
  match args, H with
  | [(Go.Eng.AV.sc (Go.Eng.SV.slc 0 Option.none b))], [(Option.some (Go.Eng.HE.mk Bool.true (Go.Eng.HB.rows (Go.Sa.B.lRtTask l))))] => g_laws_toRtTaskS_r N b l (fun l5 => K (Go.Eng.AV.sc (Go.Eng.SV.slc 1 Option.none Bool.false)) [(Option.some (Go.Eng.HE.mk Bool.true (Go.Eng.HB.rows (Go.Sa.B.lRtTask l)))), (Option.some (Go.Eng.HE.mk Bool.false (Go.Eng.HB.rows (Go.Sa.B.iRtTask l5))))])
  | _, _ => none
theorem o_laws_toRtTaskS_r_ok (N : Nat) : FnOk E 36 (o_laws_toRtTaskS_r N) := by
  intro R args H K r h
  unfold o_laws_toRtTaskS_r at h
  dsimp only at h
  split at h
  · exact fnB_ok (ids := [0]) (top := [0]) ok (O_laws_toRtTaskS_r_ok N) (jn_ok _ _) Go.Proofs.Try.func36 (by kernel_rfl) (IT := IT_laws_toRtTaskS_r_0 N) (sl := sl_laws_toRtTaskS_r) (J := J_laws_toRtTaskS_r) (K := K) (H := [(Option.some (Go.Eng.HE.mk Bool.true (Go.Eng.HB.rows (Go.Sa.B.lRtTask _))))]) (IT_laws_toRtTaskS_r_0_ok N) (by kernel_rfl) rfl ((e_laws_toRtTaskS_r N _ _ K).trans h)
  · cases h
/-! ### loop.example/g00038/spec.l18Tasks -/
abbrev sl_spec_l18Tasks_w : SlotT := [(0, ([0, 3], [2]))]
abbrev J_spec_l18Tasks_w : JT := jn [(7, [(47, .b)])] []
noncomputable def O_spec_l18Tasks_w (N : Nat) : Orc E := noFn
theorem O_spec_l18Tasks_w_ok (N : Nat) : OrcOk (O_spec_l18Tasks_w N) := noFn_ok
def s_spec_l18Tasks_w_0 (N : Nat) {R : Type} (b1 : Bool) (l1 : List Go.Sa.RtTask) (n : Int) (ag : Int → Option R) (kR : Option R) (kN : Option R) : Option R :=
  (cond (decide ((n < (((List.length l1) : Nat) : Int))))
  (cond ((decide (((0 : Int) ≤ n))) && (decide ((n < (((List.length l1) : Nat) : Int)))))
    (elemK l1 (Int.toNat n) fun x =>
      (oK (cond (decide (((Go.Sa.RtTask.fStart x) < (0 : Int))))
        (some Bool.true)
        (cond (decide (((Go.Sa.RtTask.fStart x) > (100 : Int))))
          (some Bool.true)
          (cond (decide (((Go.Sa.RtTask.fPeriod x) < (1 : Int))))
            (some Bool.true)
            (cond (decide (((Go.Sa.RtTask.fPeriod x) > (40 : Int))))
              (some Bool.true)
              (cond (decide (((Go.Sa.RtTask.fBudget x) < (1 : Int))))
                (some Bool.true)
                (some (decide (((Go.Sa.RtTask.fBudget x) > (Go.Sa.RtTask.fPeriod x)))))))))) fun j =>
      (cond j
      kR
      (ag (Go.IntKind.wrap Go.IntKind.i64 (n + (1 : Int)))))))
    none)
  kN)
def l_spec_l18Tasks_w_0 (N : Nat) {R : Type} (b1 : Bool) (l1 : List Go.Sa.RtTask) (kR : Option R) (kN : Option R) : Nat → Int → Option R
  | 0, _ => none
  | f + 1, n => s_spec_l18Tasks_w_0 N b1 l1 n (fun n => l_spec_l18Tasks_w_0 N b1 l1 kR kN f n) kR kN
def c_spec_l18Tasks_w_0 (N : Nat) {R : Type} (b1 : Bool) (l1 : List Go.Sa.RtTask) (n : Int) (kR : Option R) (kN : Option R) : Option R := l_spec_l18Tasks_w_0 N b1 l1 kR kN N n
theorem se_spec_l18Tasks_w_0 (N : Nat) {R : Type} (b1 : Bool) (l1 : List Go.Sa.RtTask) (n : Int) (AG : List (Option AV) → Hp E → Option R) (KL : Ex → List (Option AV) → Hp E → Option R) :
    iterStep (E := E) (O_spec_l18Tasks_w N) (fun {R} => LI (noIt) 1 48 sl_spec_l18Tasks_w (R := R)) J_spec_l18Tasks_w 1 48 0 [0, 3] [2] (body Go.Proofs.Try.f82 0) AG KL [(Option.some (Go.Eng.AV.sc (Go.Eng.SV.slc 0 Option.none b1))), (Option.some (Go.Eng.AV.sc (Go.Eng.SV.int Go.IntKind.i64 n)))] [(Option.some (Go.Eng.HE.mk Bool.false (Go.Eng.HB.rows (Go.Sa.B.iRtTask l1))))] =
      s_spec_l18Tasks_w_0 N b1 l1 n (fun n => AG [(Option.some (Go.Eng.AV.sc (Go.Eng.SV.slc 0 Option.none b1))), (Option.some (Go.Eng.AV.sc (Go.Eng.SV.int Go.IntKind.i64 n)))] [(Option.some (Go.Eng.HE.mk Bool.false (Go.Eng.HB.rows (Go.Sa.B.iRtTask l1))))]) (KL Go.Eng.Ex.ret [(Option.some (Go.Eng.AV.sc (Go.Eng.SV.bool Bool.false)))] [(Option.some (Go.Eng.HE.mk Bool.false (Go.Eng.HB.rows (Go.Sa.B.iRtTask l1))))]) (KL Go.Eng.Ex.normal [Option.none] [(Option.some (Go.Eng.HE.mk Bool.false (Go.Eng.HB.rows (Go.Sa.B.iRtTask l1))))]) := by kernel_rfl
theorem le_spec_l18Tasks_w_0 (N : Nat) {R : Type} (b1 : Bool) (l1 : List Go.Sa.RtTask) (KL : Ex → List (Option AV) → Hp E → Option R) : ∀ (f : Nat), ∀ (n : Int), iterK (E := E) (O_spec_l18Tasks_w N) (fun {R} => LI (noIt) 1 48 sl_spec_l18Tasks_w (R := R)) J_spec_l18Tasks_w 1 48 0 [0, 3] [2] (body Go.Proofs.Try.f82 0) f [(Option.some (Go.Eng.AV.sc (Go.Eng.SV.slc 0 Option.none b1))), (Option.some (Go.Eng.AV.sc (Go.Eng.SV.int Go.IntKind.i64 n)))] [(Option.some (Go.Eng.HE.mk Bool.false (Go.Eng.HB.rows (Go.Sa.B.iRtTask l1))))] KL = l_spec_l18Tasks_w_0 N b1 l1 (KL Go.Eng.Ex.ret [(Option.some (Go.Eng.AV.sc (Go.Eng.SV.bool Bool.false)))] [(Option.some (Go.Eng.HE.mk Bool.false (Go.Eng.HB.rows (Go.Sa.B.iRtTask l1))))]) (KL Go.Eng.Ex.normal [Option.none] [(Option.some (Go.Eng.HE.mk Bool.false (Go.Eng.HB.rows (Go.Sa.B.iRtTask l1))))]) f n := by
  intro f
  induction f with
  | zero => intros; rfl
  | succ f ih =>
    intro n
    rw [iterK_succ, se_spec_l18Tasks_w_0]
    exact congrArg (fun ag => s_spec_l18Tasks_w_0 N b1 l1 n ag (KL Go.Eng.Ex.ret [(Option.some (Go.Eng.AV.sc (Go.Eng.SV.bool Bool.false)))] [(Option.some (Go.Eng.HE.mk Bool.false (Go.Eng.HB.rows (Go.Sa.B.iRtTask l1))))]) (KL Go.Eng.Ex.normal [Option.none] [(Option.some (Go.Eng.HE.mk Bool.false (Go.Eng.HB.rows (Go.Sa.B.iRtTask l1))))])) (funext fun n => ih n)
def i_spec_l18Tasks_w_0 (N : Nat) {R : Type} (vs : List (Option AV)) (H : Hp E) (KL : Ex → List (Option AV) → Hp E → Option R) : Option R :=
  match vs, H with
  | [(Option.some (Go.Eng.AV.sc (Go.Eng.SV.slc 0 Option.none b1))), (Option.some (Go.Eng.AV.sc (Go.Eng.SV.int Go.IntKind.i64 n)))], [(Option.some (Go.Eng.HE.mk Bool.false (Go.Eng.HB.rows (Go.Sa.B.iRtTask l1))))] => c_spec_l18Tasks_w_0 N b1 l1 n (KL Go.Eng.Ex.ret [(Option.some (Go.Eng.AV.sc (Go.Eng.SV.bool Bool.false)))] [(Option.some (Go.Eng.HE.mk Bool.false (Go.Eng.HB.rows (Go.Sa.B.iRtTask l1))))]) (KL Go.Eng.Ex.normal [Option.none] [(Option.some (Go.Eng.HE.mk Bool.false (Go.Eng.HB.rows (Go.Sa.B.iRtTask l1))))])
  | _, _ => none
noncomputable def IT_spec_l18Tasks_w_0 (N : Nat) : Its E := addIt 0 (i_spec_l18Tasks_w_0 N) (noIt)
theorem IT_spec_l18Tasks_w_0_ok (N : Nat) : ItOk (IT_spec_l18Tasks_w_0 N) 1 48 sl_spec_l18Tasks_w (lsB Go.Proofs.Try.f82 [0]) :=
  addItB_ok (inner := []) ok (O_spec_l18Tasks_w_ok N) (jn_ok _ _) (noIt_ok) rfl (by kernel_rfl) rfl fun vs H KL r h => by
    unfold i_spec_l18Tasks_w_0 at h
    split at h
    · exact ⟨_, (le_spec_l18Tasks_w_0 N _ _ KL N _).trans h⟩
    · cases h
def g_spec_l18Tasks_w (N : Nat) {R : Type} (b : Bool) (l : List Go.Sa.RtTask) (k : Bool → Option R) : Option R :=
  (cond (decide (((((List.length l) : Nat) : Int) > (8 : Int))))
  (k Bool.false)
  (c_spec_l18Tasks_w_0 N b l (0 : Int) (
    (k Bool.false)) (
    (k Bool.true))))
theorem e_spec_l18Tasks_w (N : Nat) {R : Type} (b : Bool) (l : List Go.Sa.RtTask) (K : AV → Hp E → Option R) :
    runFnI (E := E) (O_spec_l18Tasks_w N) (IT_spec_l18Tasks_w_0 N) sl_spec_l18Tasks_w J_spec_l18Tasks_w Go.Proofs.Try.f82 [(Go.Eng.AV.sc (Go.Eng.SV.slc 0 Option.none b))] [(Option.some (Go.Eng.HE.mk Bool.false (Go.Eng.HB.rows (Go.Sa.B.iRtTask l))))] K =
      g_spec_l18Tasks_w N b l (fun b2 => K (Go.Eng.AV.sc (Go.Eng.SV.bool b2)) [(Option.some (Go.Eng.HE.mk Bool.false (Go.Eng.HB.rows (Go.Sa.B.iRtTask l))))]) := by kernel_rfl
def o_spec_l18Tasks_w (N : Nat) {R : Type} (args : List AV) (H : Hp E) (K : AV → Hp E → Option R) : Option R :=
  match args, H with
  | [(Go.Eng.AV.sc (Go.Eng.SV.slc 0 Option.none b))], [(Option.some (Go.Eng.HE.mk Bool.false (Go.Eng.HB.rows (Go.Sa.B.iRtTask l))))] => g_spec_l18Tasks_w N b l (fun b2 => K (Go.Eng.AV.sc (Go.Eng.SV.bool b2)) [(Option.some (Go.Eng.HE.mk Bool.false (Go.Eng.HB.rows (Go.Sa.B.iRtTask l))))])
  | _, _ => none
theorem o_spec_l18Tasks_w_ok (N : Nat) : FnOk E 82 (o_spec_l18Tasks_w N) := by
  intro R args H K r h
  unfold o_spec_l18Tasks_w at h
  dsimp only at h
  split at h
  · exact fnB_ok (ids := [0]) (top := [0]) ok (O_spec_l18Tasks_w_ok N) (jn_ok _ _) Go.Proofs.Try.func82 (by kernel_rfl) (IT := IT_spec_l18Tasks_w_0 N) (sl := sl_spec_l18Tasks_w) (J := J_spec_l18Tasks_w) (K := K) (H := [(Option.some (Go.Eng.HE.mk Bool.false (Go.Eng.HB.rows (Go.Sa.B.iRtTask _))))]) (IT_spec_l18Tasks_w_0_ok N) (by kernel_rfl) rfl ((e_spec_l18Tasks_w N _ _ K).trans h)
  · cases h
/-! ### loop.example/g00038/spec.Admit -/
abbrev sl_spec_Admit_w : SlotT := [(0, ([0, 3, 4], [3]))]
abbrev J_spec_Admit_w : JT := jn [] []
noncomputable def O_spec_Admit_w (N : Nat) : Orc E := addFn 82 (o_spec_l18Tasks_w N) (noFn)
theorem O_spec_Admit_w_ok (N : Nat) : OrcOk (O_spec_Admit_w N) := addFn_ok (o_spec_l18Tasks_w_ok N) (noFn_ok)
def s_spec_Admit_w_0 (N : Nat) {R : Type} (b2 : Bool) (l1 : List Go.Sa.RtTask) (n : Int) (n1 : Int) (ag : Int → Int → Option R) (kN : Int → Option R) : Option R :=
  (cond (decide ((n1 < (((List.length l1) : Nat) : Int))))
  (cond ((decide (((0 : Int) ≤ n1))) && (decide ((n1 < (((List.length l1) : Nat) : Int)))))
    (elemK l1 (Int.toNat n1) fun x =>
      (cond ((Go.Sa.RtTask.fPeriod x) == (0 : Int))
      none
      (cond ((decide (((0 : Int) ≤ n1))) && (decide ((n1 < (((List.length l1) : Nat) : Int)))))
        (elemK l1 (Int.toNat n1) fun x1 =>
          (ag (Go.IntKind.wrap Go.IntKind.i64 (n + (Go.IntKind.wrap Go.IntKind.i64 ((Go.IntKind.wrap Go.IntKind.i64 (Int.tdiv (5342931457063200 : Int) (Go.Sa.RtTask.fPeriod x))) * (Go.Sa.RtTask.fBudget x1))))) (Go.IntKind.wrap Go.IntKind.i64 (n1 + (1 : Int)))))
        none)))
    none)
  (kN n))
def l_spec_Admit_w_0 (N : Nat) {R : Type} (b2 : Bool) (l1 : List Go.Sa.RtTask) (kN : Int → Option R) : Nat → Int → Int → Option R
  | 0, _, _ => none
  | f + 1, n, n1 => s_spec_Admit_w_0 N b2 l1 n n1 (fun n n1 => l_spec_Admit_w_0 N b2 l1 kN f n n1) kN
def c_spec_Admit_w_0 (N : Nat) {R : Type} (b2 : Bool) (l1 : List Go.Sa.RtTask) (n : Int) (n1 : Int) (kN : Int → Option R) : Option R := l_spec_Admit_w_0 N b2 l1 kN N n n1
theorem se_spec_Admit_w_0 (N : Nat) {R : Type} (b2 : Bool) (l1 : List Go.Sa.RtTask) (n : Int) (n1 : Int) (AG : List (Option AV) → Hp E → Option R) (KL : Ex → List (Option AV) → Hp E → Option R) :
    iterStep (E := E) (O_spec_Admit_w N) (fun {R} => LI (noIt) 1 30 sl_spec_Admit_w (R := R)) J_spec_Admit_w 1 30 0 [0, 3, 4] [3] (body Go.Proofs.Try.f35 0) AG KL [(Option.some (Go.Eng.AV.sc (Go.Eng.SV.slc 0 Option.none b2))), (Option.some (Go.Eng.AV.sc (Go.Eng.SV.int Go.IntKind.i64 n))), (Option.some (Go.Eng.AV.sc (Go.Eng.SV.int Go.IntKind.i64 n1)))] [(Option.some (Go.Eng.HE.mk Bool.false (Go.Eng.HB.rows (Go.Sa.B.iRtTask l1))))] =
      s_spec_Admit_w_0 N b2 l1 n n1 (fun n n1 => AG [(Option.some (Go.Eng.AV.sc (Go.Eng.SV.slc 0 Option.none b2))), (Option.some (Go.Eng.AV.sc (Go.Eng.SV.int Go.IntKind.i64 n))), (Option.some (Go.Eng.AV.sc (Go.Eng.SV.int Go.IntKind.i64 n1)))] [(Option.some (Go.Eng.HE.mk Bool.false (Go.Eng.HB.rows (Go.Sa.B.iRtTask l1))))]) (fun n2 => KL Go.Eng.Ex.normal [(Option.some (Go.Eng.AV.sc (Go.Eng.SV.int Go.IntKind.i64 n2)))] [(Option.some (Go.Eng.HE.mk Bool.false (Go.Eng.HB.rows (Go.Sa.B.iRtTask l1))))]) := by kernel_rfl
theorem le_spec_Admit_w_0 (N : Nat) {R : Type} (b2 : Bool) (l1 : List Go.Sa.RtTask) (KL : Ex → List (Option AV) → Hp E → Option R) : ∀ (f : Nat), ∀ (n : Int) (n1 : Int), iterK (E := E) (O_spec_Admit_w N) (fun {R} => LI (noIt) 1 30 sl_spec_Admit_w (R := R)) J_spec_Admit_w 1 30 0 [0, 3, 4] [3] (body Go.Proofs.Try.f35 0) f [(Option.some (Go.Eng.AV.sc (Go.Eng.SV.slc 0 Option.none b2))), (Option.some (Go.Eng.AV.sc (Go.Eng.SV.int Go.IntKind.i64 n))), (Option.some (Go.Eng.AV.sc (Go.Eng.SV.int Go.IntKind.i64 n1)))] [(Option.some (Go.Eng.HE.mk Bool.false (Go.Eng.HB.rows (Go.Sa.B.iRtTask l1))))] KL = l_spec_Admit_w_0 N b2 l1 (fun n2 => KL Go.Eng.Ex.normal [(Option.some (Go.Eng.AV.sc (Go.Eng.SV.int Go.IntKind.i64 n2)))] [(Option.some (Go.Eng.HE.mk Bool.false (Go.Eng.HB.rows (Go.Sa.B.iRtTask l1))))]) f n n1 := by
  intro f
  induction f with
  | zero => intros; rfl
  | succ f ih =>
    intro n n1
    rw [iterK_succ, se_spec_Admit_w_0]
    exact congrArg (fun ag => s_spec_Admit_w_0 N b2 l1 n n1 ag (fun n2 => KL Go.Eng.Ex.normal [(Option.some (Go.Eng.AV.sc (Go.Eng.SV.int Go.IntKind.i64 n2)))] [(Option.some (Go.Eng.HE.mk Bool.false (Go.Eng.HB.rows (Go.Sa.B.iRtTask l1))))])) (funext fun n => funext fun n1 => ih n n1)
def i_spec_Admit_w_0 (N : Nat) {R : Type} (vs : List (Option AV)) (H : Hp E) (KL : Ex → List (Option AV) → Hp E → Option R) : Option R :=
  match vs, H with
  | [(Option.some (Go.Eng.AV.sc (Go.Eng.SV.slc 0 Option.none b2))), (Option.some (Go.Eng.AV.sc (Go.Eng.SV.int Go.IntKind.i64 n))), (Option.some (Go.Eng.AV.sc (Go.Eng.SV.int Go.IntKind.i64 n1)))], [(Option.some (Go.Eng.HE.mk Bool.false (Go.Eng.HB.rows (Go.Sa.B.iRtTask l1))))] => c_spec_Admit_w_0 N b2 l1 n n1 (fun n2 => KL Go.Eng.Ex.normal [(Option.some (Go.Eng.AV.sc (Go.Eng.SV.int Go.IntKind.i64 n2)))] [(Option.some (Go.Eng.HE.mk Bool.false (Go.Eng.HB.rows (Go.Sa.B.iRtTask l1))))])
  | _, _ => none
noncomputable def IT_spec_Admit_w_0 (N : Nat) : Its E := addIt 0 (i_spec_Admit_w_0 N) (noIt)
theorem IT_spec_Admit_w_0_ok (N : Nat) : ItOk (IT_spec_Admit_w_0 N) 1 30 sl_spec_Admit_w (lsB Go.Proofs.Try.f35 [0]) :=
  addItB_ok (inner := []) ok (O_spec_Admit_w_ok N) (jn_ok _ _) (noIt_ok) rfl (by kernel_rfl) rfl fun vs H KL r h => by
    unfold i_spec_Admit_w_0 at h
    split at h
    · exact ⟨_, (le_spec_Admit_w_0 N _ _ KL N _ _).trans h⟩
    · cases h
def g_spec_Admit_w (N : Nat) {R : Type} (b : Bool) (l : List Go.Sa.RtTask) (k : Bool → Option R) : Option R :=
  (g_spec_l18Tasks_w N b l fun b1 =>
  (cond (!b1)
  (k Bool.false)
  (c_spec_Admit_w_0 N b l (0 : Int) (0 : Int) fun n3 =>
    (k (decide ((n3 ≤ (5342931457063200 : Int))))))))
theorem e_spec_Admit_w (N : Nat) {R : Type} (b : Bool) (l : List Go.Sa.RtTask) (K : AV → Hp E → Option R) :
    runFnI (E := E) (O_spec_Admit_w N) (IT_spec_Admit_w_0 N) sl_spec_Admit_w J_spec_Admit_w Go.Proofs.Try.f35 [(Go.Eng.AV.sc (Go.Eng.SV.slc 0 Option.none b))] [(Option.some (Go.Eng.HE.mk Bool.false (Go.Eng.HB.rows (Go.Sa.B.iRtTask l))))] K =
      g_spec_Admit_w N b l (fun b3 => K (Go.Eng.AV.sc (Go.Eng.SV.bool b3)) [(Option.some (Go.Eng.HE.mk Bool.false (Go.Eng.HB.rows (Go.Sa.B.iRtTask l))))]) := by kernel_rfl
def o_spec_Admit_w (N : Nat) {R : Type} (args : List AV) (H : Hp E) (K : AV → Hp E → Option R) : Option R :=
  match args, H with
  | [(Go.Eng.AV.sc (Go.Eng.SV.slc 0 Option.none b))], [(Option.some (Go.Eng.HE.mk Bool.false (Go.Eng.HB.rows (Go.Sa.B.iRtTask l))))] => g_spec_Admit_w N b l (fun b3 => K (Go.Eng.AV.sc (Go.Eng.SV.bool b3)) [(Option.some (Go.Eng.HE.mk Bool.false (Go.Eng.HB.rows (Go.Sa.B.iRtTask l))))])
  | _, _ => none
theorem o_spec_Admit_w_ok (N : Nat) : FnOk E 35 (o_spec_Admit_w N) := by
  intro R args H K r h
  unfold o_spec_Admit_w at h
  dsimp only at h
  split at h
  · exact fnB_ok (ids := [0]) (top := [0]) ok (O_spec_Admit_w_ok N) (jn_ok _ _) Go.Proofs.Try.func35 (by kernel_rfl) (IT := IT_spec_Admit_w_0 N) (sl := sl_spec_Admit_w) (J := J_spec_Admit_w) (K := K) (H := [(Option.some (Go.Eng.HE.mk Bool.false (Go.Eng.HB.rows (Go.Sa.B.iRtTask _))))]) (IT_spec_Admit_w_0_ok N) (by kernel_rfl) rfl ((e_spec_Admit_w N _ _ K).trans h)
  · cases h
/-! ### loop.example/g00038/impl.ytasksOk$1 -/
abbrev sl_impl_ytasksOk_1 : SlotT := []
abbrev J_impl_ytasksOk_1 : JT := jn [(1, [(2, .b)])] []
noncomputable def O_impl_ytasksOk_1 (N : Nat) : Orc E := addFn 71 (o_impl_yin N) (noFn)
theorem O_impl_ytasksOk_1_ok (N : Nat) : OrcOk (O_impl_ytasksOk_1 N) := addFn_ok (o_impl_yin_ok N) (noFn_ok)
def g_impl_ytasksOk_1 (N : Nat) {R : Type} (n : Int) (n1 : Int) (n2 : Int) (k : Bool → Option R) : Option R :=
  (oK (g_impl_yin N n (0 : Int) (100 : Int) fun b =>
    (cond (!b)
    (some Bool.true)
    (g_impl_yin N n1 (1 : Int) (40 : Int) fun b1 =>
      (cond (!b1)
      (some Bool.true)
      (g_impl_yin N n2 (1 : Int) n1 fun b2 =>
        (some (!b2))))))) fun j =>
  (k j))
theorem e_impl_ytasksOk_1 (N : Nat) {R : Type} (n : Int) (n1 : Int) (n2 : Int) (K : AV → Hp E → Option R) :
    runFnI (E := E) (O_impl_ytasksOk_1 N) (noIt) sl_impl_ytasksOk_1 J_impl_ytasksOk_1 Go.Proofs.Try.f137 [(Go.Eng.AV.agg [(Go.Eng.SV.int Go.IntKind.i64 n), (Go.Eng.SV.int Go.IntKind.i64 n1), (Go.Eng.SV.int Go.IntKind.i64 n2)])] [] K =
      g_impl_ytasksOk_1 N n n1 n2 (fun b3 => K (Go.Eng.AV.sc (Go.Eng.SV.bool b3)) []) := by kernel_rfl
def o_impl_ytasksOk_1 (N : Nat) {R : Type} (args : List AV) (H : Hp E) (K : AV → Hp E → Option R) : Option R :=
  match args, H with
  | [(Go.Eng.AV.agg [(Go.Eng.SV.int Go.IntKind.i64 n), (Go.Eng.SV.int Go.IntKind.i64 n1), (Go.Eng.SV.int Go.IntKind.i64 n2)])], [] => g_impl_ytasksOk_1 N n n1 n2 (fun b3 => K (Go.Eng.AV.sc (Go.Eng.SV.bool b3)) [])
  | _, _ => none
theorem o_impl_ytasksOk_1_ok (N : Nat) : FnOk E 137 (o_impl_ytasksOk_1 N) := by
  intro R args H K r h
  unfold o_impl_ytasksOk_1 at h
  dsimp only at h
  split at h
  · exact fnB_ok (ids := []) (top := []) ok (O_impl_ytasksOk_1_ok N) (jn_ok _ _) Go.Proofs.Try.func137 (by kernel_rfl) (IT := noIt) (sl := sl_impl_ytasksOk_1) (J := J_impl_ytasksOk_1) (K := K) (H := []) (noIt_ok) (by kernel_rfl) rfl ((e_impl_ytasksOk_1 N _ _ _ K).trans h)
  · cases h
/-! ### slices.IndexFunc[[]loop.example/g00038/impl.RtTask,loop.example/g00038/impl.RtTask] -/
abbrev sl_slices_IndexFunc_RtTask_Fimpl_ytasksOk_1_r : SlotT := [(0, ([0, 1, 7, 8], [4]))]
abbrev J_slices_IndexFunc_RtTask_Fimpl_ytasksOk_1_r : JT := jn [] []
noncomputable def O_slices_IndexFunc_RtTask_Fimpl_ytasksOk_1_r (N : Nat) : Orc E := addFn 137 (o_impl_ytasksOk_1 N) (noFn)
theorem O_slices_IndexFunc_RtTask_Fimpl_ytasksOk_1_r_ok (N : Nat) : OrcOk (O_slices_IndexFunc_RtTask_Fimpl_ytasksOk_1_r N) := addFn_ok (o_impl_ytasksOk_1_ok N) (noFn_ok)
def s_slices_IndexFunc_RtTask_Fimpl_ytasksOk_1_r_0 (N : Nat) {R : Type} (b1 : Bool) (n : Int) (l1 : List Go.Sa.RtTask) (n1 : Int) (ag : Int → Option R) (kR : Int → Option R) (kN : Option R) : Option R :=
  (cond (decide ((n1 < n)))
  (cond ((decide (((0 : Int) ≤ n1))) && (decide ((n1 < (((List.length l1) : Nat) : Int)))))
    (elemK l1 (Int.toNat n1) fun x =>
      (g_impl_ytasksOk_1 N (Go.Sa.RtTask.fStart x) (Go.Sa.RtTask.fPeriod x) (Go.Sa.RtTask.fBudget x) fun b2 =>
      (cond b2
      (kR n1)
      (ag (Go.IntKind.wrap Go.IntKind.i64 (n1 + (1 : Int)))))))
    none)
  kN)
def l_slices_IndexFunc_RtTask_Fimpl_ytasksOk_1_r_0 (N : Nat) {R : Type} (b1 : Bool) (n : Int) (l1 : List Go.Sa.RtTask) (kR : Int → Option R) (kN : Option R) : Nat → Int → Option R
  | 0, _ => none
  | f + 1, n1 => s_slices_IndexFunc_RtTask_Fimpl_ytasksOk_1_r_0 N b1 n l1 n1 (fun n1 => l_slices_IndexFunc_RtTask_Fimpl_ytasksOk_1_r_0 N b1 n l1 kR kN f n1) kR kN
def c_slices_IndexFunc_RtTask_Fimpl_ytasksOk_1_r_0 (N : Nat) {R : Type} (b1 : Bool) (n : Int) (l1 : List Go.Sa.RtTask) (n1 : Int) (kR : Int → Option R) (kN : Option R) : Option R := l_slices_IndexFunc_RtTask_Fimpl_ytasksOk_1_r_0 N b1 n l1 kR kN N n1
theorem se_slices_IndexFunc_RtTask_Fimpl_ytasksOk_1_r_0 (N : Nat) {R : Type} (b1 : Bool) (n : Int) (l1 : List Go.Sa.RtTask) (n1 : Int) (AG : List (Option AV) → Hp E → Option R) (KL : Ex → List (Option AV) → Hp E → Option R) :
    iterStep (E := E) (O_slices_IndexFunc_RtTask_Fimpl_ytasksOk_1_r N) (fun {R} => LI (noIt) 1 19 sl_slices_IndexFunc_RtTask_Fimpl_ytasksOk_1_r (R := R)) J_slices_IndexFunc_RtTask_Fimpl_ytasksOk_1_r 1 19 0 [0, 1, 7, 8] [4] (body Go.Proofs.Try.f162 0) AG KL [(Option.some (Go.Eng.AV.sc (Go.Eng.SV.slc 0 Option.none b1))), (Option.some (Go.Eng.AV.sc (Go.Eng.SV.fn 137 []))), (Option.some (Go.Eng.AV.sc (Go.Eng.SV.int Go.IntKind.i64 n))), (Option.some (Go.Eng.AV.sc (Go.Eng.SV.int Go.IntKind.i64 n1)))] [(Option.some (Go.Eng.HE.mk Bool.true (Go.Eng.HB.rows (Go.Sa.B.iRtTask l1))))] =
      s_slices_IndexFunc_RtTask_Fimpl_ytasksOk_1_r_0 N b1 n l1 n1 (fun n1 => AG [(Option.some (Go.Eng.AV.sc (Go.Eng.SV.slc 0 Option.none b1))), (Option.some (Go.Eng.AV.sc (Go.Eng.SV.fn 137 []))), (Option.some (Go.Eng.AV.sc (Go.Eng.SV.int Go.IntKind.i64 n))), (Option.some (Go.Eng.AV.sc (Go.Eng.SV.int Go.IntKind.i64 n1)))] [(Option.some (Go.Eng.HE.mk Bool.true (Go.Eng.HB.rows (Go.Sa.B.iRtTask l1))))]) (fun n2 => KL Go.Eng.Ex.ret [(Option.some (Go.Eng.AV.sc (Go.Eng.SV.int Go.IntKind.i64 n2)))] [(Option.some (Go.Eng.HE.mk Bool.true (Go.Eng.HB.rows (Go.Sa.B.iRtTask l1))))]) (KL Go.Eng.Ex.normal [Option.none] [(Option.some (Go.Eng.HE.mk Bool.true (Go.Eng.HB.rows (Go.Sa.B.iRtTask l1))))]) := by kernel_rfl
theorem le_slices_IndexFunc_RtTask_Fimpl_ytasksOk_1_r_0 (N : Nat) {R : Type} (b1 : Bool) (n : Int) (l1 : List Go.Sa.RtTask) (KL : Ex → List (Option AV) → Hp E → Option R) : ∀ (f : Nat), ∀ (n1 : Int), iterK (E := E) (O_slices_IndexFunc_RtTask_Fimpl_ytasksOk_1_r N) (fun {R} => LI (noIt) 1 19 sl_slices_IndexFunc_RtTask_Fimpl_ytasksOk_1_r (R := R)) J_slices_IndexFunc_RtTask_Fimpl_ytasksOk_1_r 1 19 0 [0, 1, 7, 8] [4] (body Go.Proofs.Try.f162 0) f [(Option.some (Go.Eng.AV.sc (Go.Eng.SV.slc 0 Option.none b1))), (Option.some (Go.Eng.AV.sc (Go.Eng.SV.fn 137 []))), (Option.some (Go.Eng.AV.sc (Go.Eng.SV.int Go.IntKind.i64 n))), (Option.some (Go.Eng.AV.sc (Go.Eng.SV.int Go.IntKind.i64 n1)))] [(Option.some (Go.Eng.HE.mk Bool.true (Go.Eng.HB.rows (Go.Sa.B.iRtTask l1))))] KL = l_slices_IndexFunc_RtTask_Fimpl_ytasksOk_1_r_0 N b1 n l1 (fun n2 => KL Go.Eng.Ex.ret [(Option.some (Go.Eng.AV.sc (Go.Eng.SV.int Go.IntKind.i64 n2)))] [(Option.some (Go.Eng.HE.mk Bool.true (Go.Eng.HB.rows (Go.Sa.B.iRtTask l1))))]) (KL Go.Eng.Ex.normal [Option.none] [(Option.some (Go.Eng.HE.mk Bool.true (Go.Eng.HB.rows (Go.Sa.B.iRtTask l1))))]) f n1 := by
  intro f
  induction f with
  | zero => intros; rfl
  | succ f ih =>
    intro n1
    rw [iterK_succ, se_slices_IndexFunc_RtTask_Fimpl_ytasksOk_1_r_0]
    exact congrArg (fun ag => s_slices_IndexFunc_RtTask_Fimpl_ytasksOk_1_r_0 N b1 n l1 n1 ag (fun n2 => KL Go.Eng.Ex.ret [(Option.some (Go.Eng.AV.sc (Go.Eng.SV.int Go.IntKind.i64 n2)))] [(Option.some (Go.Eng.HE.mk Bool.true (Go.Eng.HB.rows (Go.Sa.B.iRtTask l1))))]) (KL Go.Eng.Ex.normal [Option.none] [(Option.some (Go.Eng.HE.mk Bool.true (Go.Eng.HB.rows (Go.Sa.B.iRtTask l1))))])) (funext fun n1 => ih n1)
def i_slices_IndexFunc_RtTask_Fimpl_ytasksOk_1_r_0 (N : Nat) {R : Type} (vs : List (Option AV)) (H : Hp E) (KL : Ex → List (Option AV) → Hp E → Option R) : Option R :=
  match vs, H with
  | [(Option.some (Go.Eng.AV.sc (Go.Eng.SV.slc 0 Option.none b1))), (Option.some (Go.Eng.AV.sc (Go.Eng.SV.fn 137 []))), (Option.some (Go.Eng.AV.sc (Go.Eng.SV.int Go.IntKind.i64 n))), (Option.some (Go.Eng.AV.sc (Go.Eng.SV.int Go.IntKind.i64 n1)))], [(Option.some (Go.Eng.HE.mk Bool.true (Go.Eng.HB.rows (Go.Sa.B.iRtTask l1))))] => c_slices_IndexFunc_RtTask_Fimpl_ytasksOk_1_r_0 N b1 n l1 n1 (fun n2 => KL Go.Eng.Ex.ret [(Option.some (Go.Eng.AV.sc (Go.Eng.SV.int Go.IntKind.i64 n2)))] [(Option.some (Go.Eng.HE.mk Bool.true (Go.Eng.HB.rows (Go.Sa.B.iRtTask l1))))]) (KL Go.Eng.Ex.normal [Option.none] [(Option.some (Go.Eng.HE.mk Bool.true (Go.Eng.HB.rows (Go.Sa.B.iRtTask l1))))])
  | _, _ => none
noncomputable def IT_slices_IndexFunc_RtTask_Fimpl_ytasksOk_1_r_0 (N : Nat) : Its E := addIt 0 (i_slices_IndexFunc_RtTask_Fimpl_ytasksOk_1_r_0 N) (noIt)
theorem IT_slices_IndexFunc_RtTask_Fimpl_ytasksOk_1_r_0_ok (N : Nat) : ItOk (IT_slices_IndexFunc_RtTask_Fimpl_ytasksOk_1_r_0 N) 1 19 sl_slices_IndexFunc_RtTask_Fimpl_ytasksOk_1_r (lsB Go.Proofs.Try.f162 [0]) :=
  addItB_ok (inner := []) ok (O_slices_IndexFunc_RtTask_Fimpl_ytasksOk_1_r_ok N) (jn_ok _ _) (noIt_ok) rfl (by kernel_rfl) rfl fun vs H KL r h => by
    unfold i_slices_IndexFunc_RtTask_Fimpl_ytasksOk_1_r_0 at h
    split at h
    · exact ⟨_, (le_slices_IndexFunc_RtTask_Fimpl_ytasksOk_1_r_0 N _ _ _ KL N _).trans h⟩
    · cases h
def g_slices_IndexFunc_RtTask_Fimpl_ytasksOk_1_r (N : Nat) {R : Type} (b : Bool) (l : List Go.Sa.RtTask) (k : Int → Option R) : Option R :=
  (c_slices_IndexFunc_RtTask_Fimpl_ytasksOk_1_r_0 N b (((List.length l) : Nat) : Int) l (0 : Int) (fun n3 =>
  (k n3)) (
  (k (-(1 : Int)))))
theorem e_slices_IndexFunc_RtTask_Fimpl_ytasksOk_1_r (N : Nat) {R : Type} (b : Bool) (l : List Go.Sa.RtTask) (K : AV → Hp E → Option R) :
    runFnI (E := E) (O_slices_IndexFunc_RtTask_Fimpl_ytasksOk_1_r N) (IT_slices_IndexFunc_RtTask_Fimpl_ytasksOk_1_r_0 N) sl_slices_IndexFunc_RtTask_Fimpl_ytasksOk_1_r J_slices_IndexFunc_RtTask_Fimpl_ytasksOk_1_r Go.Proofs.Try.f162 [(Go.Eng.AV.sc (Go.Eng.SV.slc 0 Option.none b)), (Go.Eng.AV.sc (Go.Eng.SV.fn 137 []))] [(Option.some (Go.Eng.HE.mk Bool.true (Go.Eng.HB.rows (Go.Sa.B.iRtTask l))))] K =
      g_slices_IndexFunc_RtTask_Fimpl_ytasksOk_1_r N b l (fun n4 => K (Go.Eng.AV.sc (Go.Eng.SV.int Go.IntKind.i64 n4)) [(Option.some (Go.Eng.HE.mk Bool.true (Go.Eng.HB.rows (Go.Sa.B.iRtTask l))))]) := by kernel_rfl
def o_slices_IndexFunc_RtTask_Fimpl_ytasksOk_1_r (N : Nat) {R : Type} (args : List AV) (H : Hp E) (K : AV → Hp E → Option R) : Option R :=
  match args, H with
  | [(Go.Eng.AV.sc (Go.Eng.SV.slc 0 Option.none b)), (Go.Eng.AV.sc (Go.Eng.SV.fn 137 []))], [(Option.some (Go.Eng.HE.mk Bool.true (Go.Eng.HB.rows (Go.Sa.B.iRtTask l))))] => g_slices_IndexFunc_RtTask_Fimpl_ytasksOk_1_r N b l (fun n4 => K (Go.Eng.AV.sc (Go.Eng.SV.int Go.IntKind.i64 n4)) [(Option.some (Go.Eng.HE.mk Bool.true (Go.Eng.HB.rows (Go.Sa.B.iRtTask l))))])
  | _, _ => none
theorem o_slices_IndexFunc_RtTask_Fimpl_ytasksOk_1_r_ok (N : Nat) : FnOk E 162 (o_slices_IndexFunc_RtTask_Fimpl_ytasksOk_1_r N) := by
  intro R args H K r h
  unfold o_slices_IndexFunc_RtTask_Fimpl_ytasksOk_1_r at h
  dsimp only at h
  split at h
  · exact fnB_ok (ids := [0]) (top := [0]) ok (O_slices_IndexFunc_RtTask_Fimpl_ytasksOk_1_r_ok N) (jn_ok _ _) Go.Proofs.Try.func162 (by kernel_rfl) (IT := IT_slices_IndexFunc_RtTask_Fimpl_ytasksOk_1_r_0 N) (sl := sl_slices_IndexFunc_RtTask_Fimpl_ytasksOk_1_r) (J := J_slices_IndexFunc_RtTask_Fimpl_ytasksOk_1_r) (K := K) (H := [(Option.some (Go.Eng.HE.mk Bool.true (Go.Eng.HB.rows (Go.Sa.B.iRtTask _))))]) (IT_slices_IndexFunc_RtTask_Fimpl_ytasksOk_1_r_0_ok N) (by kernel_rfl) rfl ((e_slices_IndexFunc_RtTask_Fimpl_ytasksOk_1_r N _ _ K).trans h)
  · cases h
/-! ### slices.ContainsFunc[[]loop.example/g00038/impl.RtTask,loop.example/g00038/impl.RtTask] -/
abbrev sl_slices_ContainsFunc_RtTask_Fimpl_ytasksOk_1_r : SlotT := []
abbrev J_slices_ContainsFunc_RtTask_Fimpl_ytasksOk_1_r : JT := jn [] []
noncomputable def O_slices_ContainsFunc_RtTask_Fimpl_ytasksOk_1_r (N : Nat) : Orc E := addFn 162 (o_slices_IndexFunc_RtTask_Fimpl_ytasksOk_1_r N) (noFn)
theorem O_slices_ContainsFunc_RtTask_Fimpl_ytasksOk_1_r_ok (N : Nat) : OrcOk (O_slices_ContainsFunc_RtTask_Fimpl_ytasksOk_1_r N) := addFn_ok (o_slices_IndexFunc_RtTask_Fimpl_ytasksOk_1_r_ok N) (noFn_ok)
def g_slices_ContainsFunc_RtTask_Fimpl_ytasksOk_1_r (N : Nat) {R : Type} (b : Bool) (l : List Go.Sa.RtTask) (k : Bool → Option R) : Option R :=
  (g_slices_IndexFunc_RtTask_Fimpl_ytasksOk_1_r N b l fun n =>
  (k (decide ((n ≥ (0 : Int))))))
theorem e_slices_ContainsFunc_RtTask_Fimpl_ytasksOk_1_r (N : Nat) {R : Type} (b : Bool) (l : List Go.Sa.RtTask) (K : AV → Hp E → Option R) :
    runFnI (E := E) (O_slices_ContainsFunc_RtTask_Fimpl_ytasksOk_1_r N) (noIt) sl_slices_ContainsFunc_RtTask_Fimpl_ytasksOk_1_r J_slices_ContainsFunc_RtTask_Fimpl_ytasksOk_1_r Go.Proofs.Try.f136 [(Go.Eng.AV.sc (Go.Eng.SV.slc 0 Option.none b)), (Go.Eng.AV.sc (Go.Eng.SV.fn 137 []))] [(Option.some (Go.Eng.HE.mk Bool.true (Go.Eng.HB.rows (Go.Sa.B.iRtTask l))))] K =
      g_slices_ContainsFunc_RtTask_Fimpl_ytasksOk_1_r N b l (fun b1 => K (Go.Eng.AV.sc (Go.Eng.SV.bool b1)) [(Option.some (Go.Eng.HE.mk Bool.true (Go.Eng.HB.rows (Go.Sa.B.iRtTask l))))]) := by kernel_rfl
def o_slices_ContainsFunc_RtTask_Fimpl_ytasksOk_1_r (N : Nat) {R : Type} (args : List AV) (H : Hp E) (K : AV → Hp E → Option R) : Option R :=
  match args, H with
  | [(Go.Eng.AV.sc (Go.Eng.SV.slc 0 Option.none b)), (Go.Eng.AV.sc (Go.Eng.SV.fn 137 []))], [(Option.some (Go.Eng.HE.mk Bool.true (Go.Eng.HB.rows (Go.Sa.B.iRtTask l))))] => g_slices_ContainsFunc_RtTask_Fimpl_ytasksOk_1_r N b l (fun b1 => K (Go.Eng.AV.sc (Go.Eng.SV.bool b1)) [(Option.some (Go.Eng.HE.mk Bool.true (Go.Eng.HB.rows (Go.Sa.B.iRtTask l))))])
  | _, _ => none
theorem o_slices_ContainsFunc_RtTask_Fimpl_ytasksOk_1_r_ok (N : Nat) : FnOk E 136 (o_slices_ContainsFunc_RtTask_Fimpl_ytasksOk_1_r N) := by
  intro R args H K r h
  unfold o_slices_ContainsFunc_RtTask_Fimpl_ytasksOk_1_r at h
  dsimp only at h
  split at h
  · exact fnB_ok (ids := []) (top := []) ok (O_slices_ContainsFunc_RtTask_Fimpl_ytasksOk_1_r_ok N) (jn_ok _ _) Go.Proofs.Try.func136 (by kernel_rfl) (IT := noIt) (sl := sl_slices_ContainsFunc_RtTask_Fimpl_ytasksOk_1_r) (J := J_slices_ContainsFunc_RtTask_Fimpl_ytasksOk_1_r) (K := K) (H := [(Option.some (Go.Eng.HE.mk Bool.true (Go.Eng.HB.rows (Go.Sa.B.iRtTask _))))]) (noIt_ok) (by kernel_rfl) rfl ((e_slices_ContainsFunc_RtTask_Fimpl_ytasksOk_1_r N _ _ K).trans h)
  · cases h
/-! ### loop.example/g00038/impl.ytasksOk -/
abbrev sl_impl_ytasksOk_w : SlotT := []
abbrev J_impl_ytasksOk_w : JT := jn [(1, [(2, .b)])] []
noncomputable def O_impl_ytasksOk_w (N : Nat) : Orc E := addFn 136 (o_slices_ContainsFunc_RtTask_Fimpl_ytasksOk_1_r N) (noFn)
theorem O_impl_ytasksOk_w_ok (N : Nat) : OrcOk (O_impl_ytasksOk_w N) := addFn_ok (o_slices_ContainsFunc_RtTask_Fimpl_ytasksOk_1_r_ok N) (noFn_ok)
def g_impl_ytasksOk_w (N : Nat) {R : Type} (b : Bool) (l : List Go.Sa.RtTask) (k : Bool → Option R) : Option R :=
  (oK (cond (decide (((((List.length l) : Nat) : Int) ≤ (8 : Int))))
    (g_slices_ContainsFunc_RtTask_Fimpl_ytasksOk_1_r N b l fun b1 =>
      (some (!b1)))
    (some Bool.false)) fun j =>
  (k j))
theorem e_impl_ytasksOk_w (N : Nat) {R : Type} (b : Bool) (l : List Go.Sa.RtTask) (K : AV → Hp E → Option R) :
    runFnI (E := E) (O_impl_ytasksOk_w N) (noIt) sl_impl_ytasksOk_w J_impl_ytasksOk_w Go.Proofs.Try.f84 [(Go.Eng.AV.sc (Go.Eng.SV.slc 0 Option.none b))] [(Option.some (Go.Eng.HE.mk Bool.false (Go.Eng.HB.rows (Go.Sa.B.iRtTask l))))] K =
      g_impl_ytasksOk_w N b l (fun b2 => K (Go.Eng.AV.sc (Go.Eng.SV.bool b2)) [(Option.some (Go.Eng.HE.mk Bool.false (Go.Eng.HB.rows (Go.Sa.B.iRtTask l))))]) := by kernel_rfl
def o_impl_ytasksOk_w (N : Nat) {R : Type} (args : List AV) (H : Hp E) (K : AV → Hp E → Option R) : Option R :=
  match args, H with
  | [(Go.Eng.AV.sc (Go.Eng.SV.slc 0 Option.none b))], [(Option.some (Go.Eng.HE.mk Bool.false (Go.Eng.HB.rows (Go.Sa.B.iRtTask l))))] => g_impl_ytasksOk_w N b l (fun b2 => K (Go.Eng.AV.sc (Go.Eng.SV.bool b2)) [(Option.some (Go.Eng.HE.mk Bool.false (Go.Eng.HB.rows (Go.Sa.B.iRtTask l))))])
  | _, _ => none
theorem o_impl_ytasksOk_w_ok (N : Nat) : FnOk E 84 (o_impl_ytasksOk_w N) := by
  intro R args H K r h
  unfold o_impl_ytasksOk_w at h
  dsimp only at h
  split at h
  · exact fnB_ok (ids := []) (top := []) ok (O_impl_ytasksOk_w_ok N) (jn_ok _ _) Go.Proofs.Try.func84 (by kernel_rfl) (IT := noIt) (sl := sl_impl_ytasksOk_w) (J := J_impl_ytasksOk_w) (K := K) (H := [(Option.some (Go.Eng.HE.mk Bool.false (Go.Eng.HB.rows (Go.Sa.B.iRtTask _))))]) (noIt_ok) (by kernel_rfl) rfl ((e_impl_ytasksOk_w N _ _ K).trans h)
  · cases h
/-! ### loop.example/g00038/impl.Admit -/
abbrev sl_impl_Admit_w : SlotT := [(0, ([0, 3, 12, 13, 14], [0, 3])), (2, ([3, 6, 23, 24, 25], [3, 6]))]
abbrev J_impl_Admit_w : JT := jn [] []
noncomputable def O_impl_Admit_w (N : Nat) : Orc E := addFn 84 (o_impl_ytasksOk_w N) (noFn)
theorem O_impl_Admit_w_ok (N : Nat) : OrcOk (O_impl_Admit_w N) := addFn_ok (o_impl_ytasksOk_w_ok N) (noFn_ok)
def s_impl_Admit_w_0 (N : Nat) {R : Type} (b2 : Bool) (b3 : Bool) (n1 : Int) (l1 : List Go.Sa.RtTask) (n : Int) (n2 : Int) (ag : Int → Int → Option R) (kN : Int → Option R) : Option R :=
  (cond (decide ((n2 < n1)))
  (cond ((decide (((0 : Int) ≤ n2))) && (decide ((n2 < (((List.length l1) : Nat) : Int)))))
    (elemK l1 (Int.toNat n2) fun x =>
      (ag (Go.IntKind.wrap Go.IntKind.i64 (n * (Go.Sa.RtTask.fPeriod x))) (Go.IntKind.wrap Go.IntKind.i64 (n2 + (1 : Int)))))
    none)
  (kN n))
def l_impl_Admit_w_0 (N : Nat) {R : Type} (b2 : Bool) (b3 : Bool) (n1 : Int) (l1 : List Go.Sa.RtTask) (kN : Int → Option R) : Nat → Int → Int → Option R
  | 0, _, _ => none
  | f + 1, n, n2 => s_impl_Admit_w_0 N b2 b3 n1 l1 n n2 (fun n n2 => l_impl_Admit_w_0 N b2 b3 n1 l1 kN f n n2) kN
def c_impl_Admit_w_0 (N : Nat) {R : Type} (b2 : Bool) (b3 : Bool) (n1 : Int) (l1 : List Go.Sa.RtTask) (n : Int) (n2 : Int) (kN : Int → Option R) : Option R := l_impl_Admit_w_0 N b2 b3 n1 l1 kN N n n2
theorem se_impl_Admit_w_0 (N : Nat) {R : Type} (b2 : Bool) (b3 : Bool) (n1 : Int) (l1 : List Go.Sa.RtTask) (n : Int) (n2 : Int) (AG : List (Option AV) → Hp E → Option R) (KL : Ex → List (Option AV) → Hp E → Option R) :
    iterStep (E := E) (O_impl_Admit_w N) (fun {R} => LI (noIt) 1 42 sl_impl_Admit_w (R := R)) J_impl_Admit_w 1 42 0 [0, 3, 12, 13, 14] [0, 3] (body Go.Proofs.Try.f37 0) AG KL [(Option.some (Go.Eng.AV.sc (Go.Eng.SV.slc 0 Option.none b2))), (Option.some (Go.Eng.AV.sc (Go.Eng.SV.int Go.IntKind.i64 n))), (Option.some (Go.Eng.AV.sc (Go.Eng.SV.slc 0 Option.none b3))), (Option.some (Go.Eng.AV.sc (Go.Eng.SV.int Go.IntKind.i64 n1))), (Option.some (Go.Eng.AV.sc (Go.Eng.SV.int Go.IntKind.i64 n2)))] [(Option.some (Go.Eng.HE.mk Bool.false (Go.Eng.HB.rows (Go.Sa.B.iRtTask l1))))] =
      s_impl_Admit_w_0 N b2 b3 n1 l1 n n2 (fun n n2 => AG [(Option.some (Go.Eng.AV.sc (Go.Eng.SV.slc 0 Option.none b2))), (Option.some (Go.Eng.AV.sc (Go.Eng.SV.int Go.IntKind.i64 n))), (Option.some (Go.Eng.AV.sc (Go.Eng.SV.slc 0 Option.none b3))), (Option.some (Go.Eng.AV.sc (Go.Eng.SV.int Go.IntKind.i64 n1))), (Option.some (Go.Eng.AV.sc (Go.Eng.SV.int Go.IntKind.i64 n2)))] [(Option.some (Go.Eng.HE.mk Bool.false (Go.Eng.HB.rows (Go.Sa.B.iRtTask l1))))]) (fun n3 => KL Go.Eng.Ex.normal [(Option.some (Go.Eng.AV.sc (Go.Eng.SV.slc 0 Option.none b2))), (Option.some (Go.Eng.AV.sc (Go.Eng.SV.int Go.IntKind.i64 n3)))] [(Option.some (Go.Eng.HE.mk Bool.false (Go.Eng.HB.rows (Go.Sa.B.iRtTask l1))))]) := by kernel_rfl
theorem le_impl_Admit_w_0 (N : Nat) {R : Type} (b2 : Bool) (b3 : Bool) (n1 : Int) (l1 : List Go.Sa.RtTask) (KL : Ex → List (Option AV) → Hp E → Option R) : ∀ (f : Nat), ∀ (n : Int) (n2 : Int), iterK (E := E) (O_impl_Admit_w N) (fun {R} => LI (noIt) 1 42 sl_impl_Admit_w (R := R)) J_impl_Admit_w 1 42 0 [0, 3, 12, 13, 14] [0, 3] (body Go.Proofs.Try.f37 0) f [(Option.some (Go.Eng.AV.sc (Go.Eng.SV.slc 0 Option.none b2))), (Option.some (Go.Eng.AV.sc (Go.Eng.SV.int Go.IntKind.i64 n))), (Option.some (Go.Eng.AV.sc (Go.Eng.SV.slc 0 Option.none b3))), (Option.some (Go.Eng.AV.sc (Go.Eng.SV.int Go.IntKind.i64 n1))), (Option.some (Go.Eng.AV.sc (Go.Eng.SV.int Go.IntKind.i64 n2)))] [(Option.some (Go.Eng.HE.mk Bool.false (Go.Eng.HB.rows (Go.Sa.B.iRtTask l1))))] KL = l_impl_Admit_w_0 N b2 b3 n1 l1 (fun n3 => KL Go.Eng.Ex.normal [(Option.some (Go.Eng.AV.sc (Go.Eng.SV.slc 0 Option.none b2))), (Option.some (Go.Eng.AV.sc (Go.Eng.SV.int Go.IntKind.i64 n3)))] [(Option.some (Go.Eng.HE.mk Bool.false (Go.Eng.HB.rows (Go.Sa.B.iRtTask l1))))]) f n n2 := by
  intro f
  induction f with
  | zero => intros; rfl
  | succ f ih =>
    intro n n2
    rw [iterK_succ, se_impl_Admit_w_0]
    exact congrArg (fun ag => s_impl_Admit_w_0 N b2 b3 n1 l1 n n2 ag (fun n3 => KL Go.Eng.Ex.normal [(Option.some (Go.Eng.AV.sc (Go.Eng.SV.slc 0 Option.none b2))), (Option.some (Go.Eng.AV.sc (Go.Eng.SV.int Go.IntKind.i64 n3)))] [(Option.some (Go.Eng.HE.mk Bool.false (Go.Eng.HB.rows (Go.Sa.B.iRtTask l1))))])) (funext fun n => funext fun n2 => ih n n2)
def i_impl_Admit_w_0 (N : Nat) {R : Type} (vs : List (Option AV)) (H : Hp E) (KL : Ex → List (Option AV) → Hp E → Option R) : Option R :=
  match vs, H with
  | [(Option.some (Go.Eng.AV.sc (Go.Eng.SV.slc 0 Option.none b2))), (Option.some (Go.Eng.AV.sc (Go.Eng.SV.int Go.IntKind.i64 n))), (Option.some (Go.Eng.AV.sc (Go.Eng.SV.slc 0 Option.none b3))), (Option.some (Go.Eng.AV.sc (Go.Eng.SV.int Go.IntKind.i64 n1))), (Option.some (Go.Eng.AV.sc (Go.Eng.SV.int Go.IntKind.i64 n2)))], [(Option.some (Go.Eng.HE.mk Bool.false (Go.Eng.HB.rows (Go.Sa.B.iRtTask l1))))] => c_impl_Admit_w_0 N b2 b3 n1 l1 n n2 (fun n3 => KL Go.Eng.Ex.normal [(Option.some (Go.Eng.AV.sc (Go.Eng.SV.slc 0 Option.none b2))), (Option.some (Go.Eng.AV.sc (Go.Eng.SV.int Go.IntKind.i64 n3)))] [(Option.some (Go.Eng.HE.mk Bool.false (Go.Eng.HB.rows (Go.Sa.B.iRtTask l1))))])
  | _, _ => none
noncomputable def IT_impl_Admit_w_0 (N : Nat) : Its E := addIt 0 (i_impl_Admit_w_0 N) (noIt)
theorem IT_impl_Admit_w_0_ok (N : Nat) : ItOk (IT_impl_Admit_w_0 N) 1 42 sl_impl_Admit_w (lsB Go.Proofs.Try.f37 [0]) :=
  addItB_ok (inner := []) ok (O_impl_Admit_w_ok N) (jn_ok _ _) (noIt_ok) rfl (by kernel_rfl) rfl fun vs H KL r h => by
    unfold i_impl_Admit_w_0 at h
    split at h
    · exact ⟨_, (le_impl_Admit_w_0 N _ _ _ _ KL N _ _).trans h⟩
    · cases h
def s_impl_Admit_w_2 (N : Nat) {R : Type} (n5 : Int) (b4 : Bool) (n7 : Int) (l2 : List Go.Sa.RtTask) (n6 : Int) (n8 : Int) (ag : Int → Int → Option R) (kN : Int → Option R) : Option R :=
  (cond (decide ((n8 < n7)))
  (cond ((decide (((0 : Int) ≤ n8))) && (decide ((n8 < (((List.length l2) : Nat) : Int)))))
    (elemK l2 (Int.toNat n8) fun x1 =>
      (cond ((Go.Sa.RtTask.fPeriod x1) == (0 : Int))
      none
      (ag (Go.IntKind.wrap Go.IntKind.i64 (n6 + (Go.IntKind.wrap Go.IntKind.i64 ((Go.IntKind.wrap Go.IntKind.i64 (Int.tdiv n5 (Go.Sa.RtTask.fPeriod x1))) * (Go.Sa.RtTask.fBudget x1))))) (Go.IntKind.wrap Go.IntKind.i64 (n8 + (1 : Int))))))
    none)
  (kN n6))
def l_impl_Admit_w_2 (N : Nat) {R : Type} (n5 : Int) (b4 : Bool) (n7 : Int) (l2 : List Go.Sa.RtTask) (kN : Int → Option R) : Nat → Int → Int → Option R
  | 0, _, _ => none
  | f + 1, n6, n8 => s_impl_Admit_w_2 N n5 b4 n7 l2 n6 n8 (fun n6 n8 => l_impl_Admit_w_2 N n5 b4 n7 l2 kN f n6 n8) kN
def c_impl_Admit_w_2 (N : Nat) {R : Type} (n5 : Int) (b4 : Bool) (n7 : Int) (l2 : List Go.Sa.RtTask) (n6 : Int) (n8 : Int) (kN : Int → Option R) : Option R := l_impl_Admit_w_2 N n5 b4 n7 l2 kN N n6 n8
theorem se_impl_Admit_w_2 (N : Nat) {R : Type} (n5 : Int) (b4 : Bool) (n7 : Int) (l2 : List Go.Sa.RtTask) (n6 : Int) (n8 : Int) (AG : List (Option AV) → Hp E → Option R) (KL : Ex → List (Option AV) → Hp E → Option R) :
    iterStep (E := E) (O_impl_Admit_w N) (fun {R} => LI (IT_impl_Admit_w_0 N) 1 42 sl_impl_Admit_w (R := R)) J_impl_Admit_w 1 42 2 [3, 6, 23, 24, 25] [3, 6] (body Go.Proofs.Try.f37 2) AG KL [(Option.some (Go.Eng.AV.sc (Go.Eng.SV.int Go.IntKind.i64 n5))), (Option.some (Go.Eng.AV.sc (Go.Eng.SV.int Go.IntKind.i64 n6))), (Option.some (Go.Eng.AV.sc (Go.Eng.SV.slc 0 Option.none b4))), (Option.some (Go.Eng.AV.sc (Go.Eng.SV.int Go.IntKind.i64 n7))), (Option.some (Go.Eng.AV.sc (Go.Eng.SV.int Go.IntKind.i64 n8)))] [(Option.some (Go.Eng.HE.mk Bool.false (Go.Eng.HB.rows (Go.Sa.B.iRtTask l2))))] =
      s_impl_Admit_w_2 N n5 b4 n7 l2 n6 n8 (fun n6 n8 => AG [(Option.some (Go.Eng.AV.sc (Go.Eng.SV.int Go.IntKind.i64 n5))), (Option.some (Go.Eng.AV.sc (Go.Eng.SV.int Go.IntKind.i64 n6))), (Option.some (Go.Eng.AV.sc (Go.Eng.SV.slc 0 Option.none b4))), (Option.some (Go.Eng.AV.sc (Go.Eng.SV.int Go.IntKind.i64 n7))), (Option.some (Go.Eng.AV.sc (Go.Eng.SV.int Go.IntKind.i64 n8)))] [(Option.some (Go.Eng.HE.mk Bool.false (Go.Eng.HB.rows (Go.Sa.B.iRtTask l2))))]) (fun n9 => KL Go.Eng.Ex.normal [(Option.some (Go.Eng.AV.sc (Go.Eng.SV.int Go.IntKind.i64 n5))), (Option.some (Go.Eng.AV.sc (Go.Eng.SV.int Go.IntKind.i64 n9)))] [(Option.some (Go.Eng.HE.mk Bool.false (Go.Eng.HB.rows (Go.Sa.B.iRtTask l2))))]) := by kernel_rfl
theorem le_impl_Admit_w_2 (N : Nat) {R : Type} (n5 : Int) (b4 : Bool) (n7 : Int) (l2 : List Go.Sa.RtTask) (KL : Ex → List (Option AV) → Hp E → Option R) : ∀ (f : Nat), ∀ (n6 : Int) (n8 : Int), iterK (E := E) (O_impl_Admit_w N) (fun {R} => LI (IT_impl_Admit_w_0 N) 1 42 sl_impl_Admit_w (R := R)) J_impl_Admit_w 1 42 2 [3, 6, 23, 24, 25] [3, 6] (body Go.Proofs.Try.f37 2) f [(Option.some (Go.Eng.AV.sc (Go.Eng.SV.int Go.IntKind.i64 n5))), (Option.some (Go.Eng.AV.sc (Go.Eng.SV.int Go.IntKind.i64 n6))), (Option.some (Go.Eng.AV.sc (Go.Eng.SV.slc 0 Option.none b4))), (Option.some (Go.Eng.AV.sc (Go.Eng.SV.int Go.IntKind.i64 n7))), (Option.some (Go.Eng.AV.sc (Go.Eng.SV.int Go.IntKind.i64 n8)))] [(Option.some (Go.Eng.HE.mk Bool.false (Go.Eng.HB.rows (Go.Sa.B.iRtTask l2))))] KL = l_impl_Admit_w_2 N n5 b4 n7 l2 (fun n9 => KL Go.Eng.Ex.normal [(Option.some (Go.Eng.AV.sc (Go.Eng.SV.int Go.IntKind.i64 n5))), (Option.some (Go.Eng.AV.sc (Go.Eng.SV.int Go.IntKind.i64 n9)))] [(Option.some (Go.Eng.HE.mk Bool.false (Go.Eng.HB.rows (Go.Sa.B.iRtTask l2))))]) f n6 n8 := by
  intro f
  induction f with
  | zero => intros; rfl
  | succ f ih =>
    intro n6 n8
    rw [iterK_succ, se_impl_Admit_w_2]
    exact congrArg (fun ag => s_impl_Admit_w_2 N n5 b4 n7 l2 n6 n8 ag (fun n9 => KL Go.Eng.Ex.normal [(Option.some (Go.Eng.AV.sc (Go.Eng.SV.int Go.IntKind.i64 n5))), (Option.some (Go.Eng.AV.sc (Go.Eng.SV.int Go.IntKind.i64 n9)))] [(Option.some (Go.Eng.HE.mk Bool.false (Go.Eng.HB.rows (Go.Sa.B.iRtTask l2))))])) (funext fun n6 => funext fun n8 => ih n6 n8)
def i_impl_Admit_w_2 (N : Nat) {R : Type} (vs : List (Option AV)) (H : Hp E) (KL : Ex → List (Option AV) → Hp E → Option R) : Option R :=
  match vs, H with
  | [(Option.some (Go.Eng.AV.sc (Go.Eng.SV.int Go.IntKind.i64 n5))), (Option.some (Go.Eng.AV.sc (Go.Eng.SV.int Go.IntKind.i64 n6))), (Option.some (Go.Eng.AV.sc (Go.Eng.SV.slc 0 Option.none b4))), (Option.some (Go.Eng.AV.sc (Go.Eng.SV.int Go.IntKind.i64 n7))), (Option.some (Go.Eng.AV.sc (Go.Eng.SV.int Go.IntKind.i64 n8)))], [(Option.some (Go.Eng.HE.mk Bool.false (Go.Eng.HB.rows (Go.Sa.B.iRtTask l2))))] => c_impl_Admit_w_2 N n5 b4 n7 l2 n6 n8 (fun n9 => KL Go.Eng.Ex.normal [(Option.some (Go.Eng.AV.sc (Go.Eng.SV.int Go.IntKind.i64 n5))), (Option.some (Go.Eng.AV.sc (Go.Eng.SV.int Go.IntKind.i64 n9)))] [(Option.some (Go.Eng.HE.mk Bool.false (Go.Eng.HB.rows (Go.Sa.B.iRtTask l2))))])
  | _, _ => none
noncomputable def IT_impl_Admit_w_2 (N : Nat) : Its E := addIt 2 (i_impl_Admit_w_2 N) (IT_impl_Admit_w_0 N)
theorem IT_impl_Admit_w_2_ok (N : Nat) : ItOk (IT_impl_Admit_w_2 N) 1 42 sl_impl_Admit_w (lsB Go.Proofs.Try.f37 [2, 0]) :=
  addItB_ok (inner := []) ok (O_impl_Admit_w_ok N) (jn_ok _ _) (IT_impl_Admit_w_0_ok N) rfl (by kernel_rfl) rfl fun vs H KL r h => by
    unfold i_impl_Admit_w_2 at h
    split at h
    · exact ⟨_, (le_impl_Admit_w_2 N _ _ _ _ KL N _ _).trans h⟩
    · cases h
def g_impl_Admit_w (N : Nat) {R : Type} (b : Bool) (l : List Go.Sa.RtTask) (k : Bool → Option R) : Option R :=
  (g_impl_ytasksOk_w N b l fun b1 =>
  (cond (!b1)
  (k Bool.false)
  (c_impl_Admit_w_0 N b b (((List.length l) : Nat) : Int) l (1 : Int) (0 : Int) fun n4 =>
    (c_impl_Admit_w_2 N n4 b (((List.length l) : Nat) : Int) l (0 : Int) (0 : Int) fun n10 =>
    (k (decide ((n10 ≤ n4))))))))
theorem e_impl_Admit_w (N : Nat) {R : Type} (b : Bool) (l : List Go.Sa.RtTask) (K : AV → Hp E → Option R) :
    runFnI (E := E) (O_impl_Admit_w N) (IT_impl_Admit_w_2 N) sl_impl_Admit_w J_impl_Admit_w Go.Proofs.Try.f37 [(Go.Eng.AV.sc (Go.Eng.SV.slc 0 Option.none b))] [(Option.some (Go.Eng.HE.mk Bool.false (Go.Eng.HB.rows (Go.Sa.B.iRtTask l))))] K =
      g_impl_Admit_w N b l (fun b5 => K (Go.Eng.AV.sc (Go.Eng.SV.bool b5)) [(Option.some (Go.Eng.HE.mk Bool.false (Go.Eng.HB.rows (Go.Sa.B.iRtTask l))))]) := by kernel_rfl
def o_impl_Admit_w (N : Nat) {R : Type} (args : List AV) (H : Hp E) (K : AV → Hp E → Option R) : Option R :=
  match args, H with
  | [(Go.Eng.AV.sc (Go.Eng.SV.slc 0 Option.none b))], [(Option.some (Go.Eng.HE.mk Bool.false (Go.Eng.HB.rows (Go.Sa.B.iRtTask l))))] => g_impl_Admit_w N b l (fun b5 => K (Go.Eng.AV.sc (Go.Eng.SV.bool b5)) [(Option.some (Go.Eng.HE.mk Bool.false (Go.Eng.HB.rows (Go.Sa.B.iRtTask l))))])
  | _, _ => none
theorem o_impl_Admit_w_ok (N : Nat) : FnOk E 37 (o_impl_Admit_w N) := by
  intro R args H K r h
  unfold o_impl_Admit_w at h
  dsimp only at h
  split at h
  · exact fnB_ok (ids := [2, 0]) (top := [0, 2]) ok (O_impl_Admit_w_ok N) (jn_ok _ _) Go.Proofs.Try.func37 (by kernel_rfl) (IT := IT_impl_Admit_w_2 N) (sl := sl_impl_Admit_w) (J := J_impl_Admit_w) (K := K) (H := [(Option.some (Go.Eng.HE.mk Bool.false (Go.Eng.HB.rows (Go.Sa.B.iRtTask _))))]) (IT_impl_Admit_w_2_ok N) (by kernel_rfl) rfl ((e_impl_Admit_w N _ _ K).trans h)
  · cases h
/-! ### loop.example/g00038/laws.eqRtTask -/
abbrev sl_laws_eqRtTask : SlotT := []
abbrev J_laws_eqRtTask : JT := jn [] []
noncomputable def O_laws_eqRtTask (N : Nat) : Orc E := noFn
theorem O_laws_eqRtTask_ok (N : Nat) : OrcOk (O_laws_eqRtTask N) := noFn_ok
def g_laws_eqRtTask (N : Nat) {R : Type} (n : Int) (n1 : Int) (n2 : Int) (n3 : Int) (n4 : Int) (n5 : Int) (k : Bool → Option R) : Option R :=
  (cond (n != n3)
  (k Bool.false)
  (cond (n1 != n4)
    (k Bool.false)
    (cond (n2 != n5)
      (k Bool.false)
      (k Bool.true))))
theorem e_laws_eqRtTask (N : Nat) {R : Type} (n : Int) (n1 : Int) (n2 : Int) (n3 : Int) (n4 : Int) (n5 : Int) (K : AV → Hp E → Option R) :
    runFnI (E := E) (O_laws_eqRtTask N) (noIt) sl_laws_eqRtTask J_laws_eqRtTask Go.Proofs.Try.f85 [(Go.Eng.AV.agg [(Go.Eng.SV.int Go.IntKind.i64 n), (Go.Eng.SV.int Go.IntKind.i64 n1), (Go.Eng.SV.int Go.IntKind.i64 n2)]), (Go.Eng.AV.agg [(Go.Eng.SV.int Go.IntKind.i64 n3), (Go.Eng.SV.int Go.IntKind.i64 n4), (Go.Eng.SV.int Go.IntKind.i64 n5)])] [] K =
      g_laws_eqRtTask N n n1 n2 n3 n4 n5 (fun b => K (Go.Eng.AV.sc (Go.Eng.SV.bool b)) []) := by kernel_rfl
def o_laws_eqRtTask (N : Nat) {R : Type} (args : List AV) (H : Hp E) (K : AV → Hp E → Option R) : Option R :=
  match args, H with
  | [(Go.Eng.AV.agg [(Go.Eng.SV.int Go.IntKind.i64 n), (Go.Eng.SV.int Go.IntKind.i64 n1), (Go.Eng.SV.int Go.IntKind.i64 n2)]), (Go.Eng.AV.agg [(Go.Eng.SV.int Go.IntKind.i64 n3), (Go.Eng.SV.int Go.IntKind.i64 n4), (Go.Eng.SV.int Go.IntKind.i64 n5)])], [] => g_laws_eqRtTask N n n1 n2 n3 n4 n5 (fun b => K (Go.Eng.AV.sc (Go.Eng.SV.bool b)) [])
  | _, _ => none
theorem o_laws_eqRtTask_ok (N : Nat) : FnOk E 85 (o_laws_eqRtTask N) := by
  intro R args H K r h
  unfold o_laws_eqRtTask at h
  dsimp only at h
  split at h
  · exact fnB_ok (ids := []) (top := []) ok (O_laws_eqRtTask_ok N) (jn_ok _ _) Go.Proofs.Try.func85 (by kernel_rfl) (IT := noIt) (sl := sl_laws_eqRtTask) (J := J_laws_eqRtTask) (K := K) (H := []) (noIt_ok) (by kernel_rfl) rfl ((e_laws_eqRtTask N _ _ _ _ _ _ K).trans h)
  · cases h
/-! ### loop.example/g00038/laws.eqRtTaskS -/
abbrev sl_laws_eqRtTaskS_ww : SlotT := [(0, ([0, 1, 5], [4]))]
abbrev J_laws_eqRtTaskS_ww : JT := jn [] []
noncomputable def O_laws_eqRtTaskS_ww (N : Nat) : Orc E := addFn 85 (o_laws_eqRtTask N) (noFn)
theorem O_laws_eqRtTaskS_ww_ok (N : Nat) : OrcOk (O_laws_eqRtTaskS_ww N) := addFn_ok (o_laws_eqRtTask_ok N) (noFn_ok)
def s_laws_eqRtTaskS_ww_0 (N : Nat) {R : Type} (b2 : Bool) (b3 : Bool) (l2 : List Go.Sa.RtTask) (l3 : List Go.Sa.RtTask) (n : Int) (ag : Int → Option R) (kR : Option R) (kN : Option R) : Option R :=
  (cond (decide ((n < (((List.length l2) : Nat) : Int))))
  (cond ((decide (((0 : Int) ≤ n))) && (decide ((n < (((List.length l2) : Nat) : Int)))))
    (elemK l2 (Int.toNat n) fun x =>
      (cond ((decide (((0 : Int) ≤ n))) && (decide ((n < (((List.length l3) : Nat) : Int)))))
      (elemK l3 (Int.toNat n) fun x1 =>
        (g_laws_eqRtTask N (Go.Sa.RtTask.fStart x) (Go.Sa.RtTask.fPeriod x) (Go.Sa.RtTask.fBudget x) (Go.Sa.RtTask.fStart x1) (Go.Sa.RtTask.fPeriod x1) (Go.Sa.RtTask.fBudget x1) fun b4 =>
        (cond (!b4)
        kR
        (ag (Go.IntKind.wrap Go.IntKind.i64 (n + (1 : Int)))))))
      none))
    none)
  kN)
def l_laws_eqRtTaskS_ww_0 (N : Nat) {R : Type} (b2 : Bool) (b3 : Bool) (l2 : List Go.Sa.RtTask) (l3 : List Go.Sa.RtTask) (kR : Option R) (kN : Option R) : Nat → Int → Option R
  | 0, _ => none
  | f + 1, n => s_laws_eqRtTaskS_ww_0 N b2 b3 l2 l3 n (fun n => l_laws_eqRtTaskS_ww_0 N b2 b3 l2 l3 kR kN f n) kR kN
def c_laws_eqRtTaskS_ww_0 (N : Nat) {R : Type} (b2 : Bool) (b3 : Bool) (l2 : List Go.Sa.RtTask) (l3 : List Go.Sa.RtTask) (n : Int) (kR : Option R) (kN : Option R) : Option R := l_laws_eqRtTaskS_ww_0 N b2 b3 l2 l3 kR kN N n
theorem se_laws_eqRtTaskS_ww_0 (N : Nat) {R : Type} (b2 : Bool) (b3 : Bool) (l2 : List Go.Sa.RtTask) (l3 : List Go.Sa.RtTask) (n : Int) (AG : List (Option AV) → Hp E → Option R) (KL : Ex → List (Option AV) → Hp E → Option R) :
    iterStep (E := E) (O_laws_eqRtTaskS_ww N) (fun {R} => LI (noIt) 2 27 sl_laws_eqRtTaskS_ww (R := R)) J_laws_eqRtTaskS_ww 2 27 0 [0, 1, 5] [4] (body Go.Proofs.Try.f38 0) AG KL [(Option.some (Go.Eng.AV.sc (Go.Eng.SV.slc 0 Option.none b2))), (Option.some (Go.Eng.AV.sc (Go.Eng.SV.slc 1 Option.none b3))), (Option.some (Go.Eng.AV.sc (Go.Eng.SV.int Go.IntKind.i64 n)))] [(Option.some (Go.Eng.HE.mk Bool.false (Go.Eng.HB.rows (Go.Sa.B.iRtTask l2)))), (Option.some (Go.Eng.HE.mk Bool.false (Go.Eng.HB.rows (Go.Sa.B.iRtTask l3))))] =
      s_laws_eqRtTaskS_ww_0 N b2 b3 l2 l3 n (fun n => AG [(Option.some (Go.Eng.AV.sc (Go.Eng.SV.slc 0 Option.none b2))), (Option.some (Go.Eng.AV.sc (Go.Eng.SV.slc 1 Option.none b3))), (Option.some (Go.Eng.AV.sc (Go.Eng.SV.int Go.IntKind.i64 n)))] [(Option.some (Go.Eng.HE.mk Bool.false (Go.Eng.HB.rows (Go.Sa.B.iRtTask l2)))), (Option.some (Go.Eng.HE.mk Bool.false (Go.Eng.HB.rows (Go.Sa.B.iRtTask l3))))]) (KL Go.Eng.Ex.ret [(Option.some (Go.Eng.AV.sc (Go.Eng.SV.bool Bool.false)))] [(Option.some (Go.Eng.HE.mk Bool.false (Go.Eng.HB.rows (Go.Sa.B.iRtTask l2)))), (Option.some (Go.Eng.HE.mk Bool.false (Go.Eng.HB.rows (Go.Sa.B.iRtTask l3))))]) (KL Go.Eng.Ex.normal [Option.none] [(Option.some (Go.Eng.HE.mk Bool.false (Go.Eng.HB.rows (Go.Sa.B.iRtTask l2)))), (Option.some (Go.Eng.HE.mk Bool.false (Go.Eng.HB.rows (Go.Sa.B.iRtTask l3))))]) := by kernel_rfl
theorem le_laws_eqRtTaskS_ww_0 (N : Nat) {R : Type} (b2 : Bool) (b3 : Bool) (l2 : List Go.Sa.RtTask) (l3 : List Go.Sa.RtTask) (KL : Ex → List (Option AV) → Hp E → Option R) : ∀ (f : Nat), ∀ (n : Int), iterK (E := E) (O_laws_eqRtTaskS_ww N) (fun {R} => LI (noIt) 2 27 sl_laws_eqRtTaskS_ww (R := R)) J_laws_eqRtTaskS_ww 2 27 0 [0, 1, 5] [4] (body Go.Proofs.Try.f38 0) f [(Option.some (Go.Eng.AV.sc (Go.Eng.SV.slc 0 Option.none b2))), (Option.some (Go.Eng.AV.sc (Go.Eng.SV.slc 1 Option.none b3))), (Option.some (Go.Eng.AV.sc (Go.Eng.SV.int Go.IntKind.i64 n)))] [(Option.some (Go.Eng.HE.mk Bool.false (Go.Eng.HB.rows (Go.Sa.B.iRtTask l2)))), (Option.some (Go.Eng.HE.mk Bool.false (Go.Eng.HB.rows (Go.Sa.B.iRtTask l3))))] KL = l_laws_eqRtTaskS_ww_0 N b2 b3 l2 l3 (KL Go.Eng.Ex.ret [(Option.some (Go.Eng.AV.sc (Go.Eng.SV.bool Bool.false)))] [(Option.some (Go.Eng.HE.mk Bool.false (Go.Eng.HB.rows (Go.Sa.B.iRtTask l2)))), (Option.some (Go.Eng.HE.mk Bool.false (Go.Eng.HB.rows (Go.Sa.B.iRtTask l3))))]) (KL Go.Eng.Ex.normal [Option.none] [(Option.some (Go.Eng.HE.mk Bool.false (Go.Eng.HB.rows (Go.Sa.B.iRtTask l2)))), (Option.some (Go.Eng.HE.mk Bool.false (Go.Eng.HB.rows (Go.Sa.B.iRtTask l3))))]) f n := by
  intro f
  induction f with
  | zero => intros; rfl
  | succ f ih =>
    intro n
    rw [iterK_succ, se_laws_eqRtTaskS_ww_0]
    exact congrArg (fun ag => s_laws_eqRtTaskS_ww_0 N b2 b3 l2 l3 n ag (KL Go.Eng.Ex.ret [(Option.some (Go.Eng.AV.sc (Go.Eng.SV.bool Bool.false)))] [(Option.some (Go.Eng.HE.mk Bool.false (Go.Eng.HB.rows (Go.Sa.B.iRtTask l2)))), (Option.some (Go.Eng.HE.mk Bool.false (Go.Eng.HB.rows (Go.Sa.B.iRtTask l3))))]) (KL Go.Eng.Ex.normal [Option.none] [(Option.some (Go.Eng.HE.mk Bool.false (Go.Eng.HB.rows (Go.Sa.B.iRtTask l2)))), (Option.some (Go.Eng.HE.mk Bool.false (Go.Eng.HB.rows (Go.Sa.B.iRtTask l3))))])) (funext fun n => ih n)
def i_laws_eqRtTaskS_ww_0 (N : Nat) {R : Type} (vs : List (Option AV)) (H : Hp E) (KL : Ex → List (Option AV) → Hp E → Option R) : Option R :=
  match vs, H with
  | [(Option.some (Go.Eng.AV.sc (Go.Eng.SV.slc 0 Option.none b2))), (Option.some (Go.Eng.AV.sc (Go.Eng.SV.slc 1 Option.none b3))), (Option.some (Go.Eng.AV.sc (Go.Eng.SV.int Go.IntKind.i64 n)))], [(Option.some (Go.Eng.HE.mk Bool.false (Go.Eng.HB.rows (Go.Sa.B.iRtTask l2)))), (Option.some (Go.Eng.HE.mk Bool.false (Go.Eng.HB.rows (Go.Sa.B.iRtTask l3))))] => c_laws_eqRtTaskS_ww_0 N b2 b3 l2 l3 n (KL Go.Eng.Ex.ret [(Option.some (Go.Eng.AV.sc (Go.Eng.SV.bool Bool.false)))] [(Option.some (Go.Eng.HE.mk Bool.false (Go.Eng.HB.rows (Go.Sa.B.iRtTask l2)))), (Option.some (Go.Eng.HE.mk Bool.false (Go.Eng.HB.rows (Go.Sa.B.iRtTask l3))))]) (KL Go.Eng.Ex.normal [Option.none] [(Option.some (Go.Eng.HE.mk Bool.false (Go.Eng.HB.rows (Go.Sa.B.iRtTask l2)))), (Option.some (Go.Eng.HE.mk Bool.false (Go.Eng.HB.rows (Go.Sa.B.iRtTask l3))))])
  | _, _ => none
noncomputable def IT_laws_eqRtTaskS_ww_0 (N : Nat) : Its E := addIt 0 (i_laws_eqRtTaskS_ww_0 N) (noIt)
theorem IT_laws_eqRtTaskS_ww_0_ok (N : Nat) : ItOk (IT_laws_eqRtTaskS_ww_0 N) 2 27 sl_laws_eqRtTaskS_ww (lsB Go.Proofs.Try.f38 [0]) :=
  addItB_ok (inner := []) ok (O_laws_eqRtTaskS_ww_ok N) (jn_ok _ _) (noIt_ok) rfl (by kernel_rfl) rfl fun vs H KL r h => by
    unfold i_laws_eqRtTaskS_ww_0 at h
    split at h
    · exact ⟨_, (le_laws_eqRtTaskS_ww_0 N _ _ _ _ KL N _).trans h⟩
    · cases h
def g_laws_eqRtTaskS_ww (N : Nat) {R : Type} (b : Bool) (b1 : Bool) (l : List Go.Sa.RtTask) (l1 : List Go.Sa.RtTask) (k : Bool → Option R) : Option R :=
  (cond ((((List.length l) : Nat) : Int) != (((List.length l1) : Nat) : Int))
  (k Bool.false)
  (c_laws_eqRtTaskS_ww_0 N b b1 l l1 (0 : Int) (
    (k Bool.false)) (
    (k Bool.true))))
theorem e_laws_eqRtTaskS_ww (N : Nat) {R : Type} (b : Bool) (b1 : Bool) (l : List Go.Sa.RtTask) (l1 : List Go.Sa.RtTask) (K : AV → Hp E → Option R) :
    runFnI (E := E) (O_laws_eqRtTaskS_ww N) (IT_laws_eqRtTaskS_ww_0 N) sl_laws_eqRtTaskS_ww J_laws_eqRtTaskS_ww Go.Proofs.Try.f38 [(Go.Eng.AV.sc (Go.Eng.SV.slc 0 Option.none b)), (Go.Eng.AV.sc (Go.Eng.SV.slc 1 Option.none b1))] [(Option.some (Go.Eng.HE.mk Bool.false (Go.Eng.HB.rows (Go.Sa.B.iRtTask l)))), (Option.some (Go.Eng.HE.mk Bool.false (Go.Eng.HB.rows (Go.Sa.B.iRtTask l1))))] K =
      g_laws_eqRtTaskS_ww N b b1 l l1 (fun b5 => K (Go.Eng.AV.sc (Go.Eng.SV.bool b5)) [(Option.some (Go.Eng.HE.mk Bool.false (Go.Eng.HB.rows (Go.Sa.B.iRtTask l)))), (Option.some (Go.Eng.HE.mk Bool.false (Go.Eng.HB.rows (Go.Sa.B.iRtTask l1))))]) := by kernel_rfl
def o_laws_eqRtTaskS_ww (N : Nat) {R : Type} (args : List AV) (H : Hp E) (K : AV → Hp E → Option R) : Option R :=
  match args, H with
  | [(Go.Eng.AV.sc (Go.Eng.SV.slc 0 Option.none b)), (Go.Eng.AV.sc (Go.Eng.SV.slc 1 Option.none b1))], [(Option.some (Go.Eng.HE.mk Bool.false (Go.Eng.HB.rows (Go.Sa.B.iRtTask l)))), (Option.some (Go.Eng.HE.mk Bool.false (Go.Eng.HB.rows (Go.Sa.B.iRtTask l1))))] => g_laws_eqRtTaskS_ww N b b1 l l1 (fun b5 => K (Go.Eng.AV.sc (Go.Eng.SV.bool b5)) [(Option.some (Go.Eng.HE.mk Bool.false (Go.Eng.HB.rows (Go.Sa.B.iRtTask l)))), (Option.some (Go.Eng.HE.mk Bool.false (Go.Eng.HB.rows (Go.Sa.B.iRtTask l1))))])
  | _, _ => none
theorem o_laws_eqRtTaskS_ww_ok (N : Nat) : FnOk E 38 (o_laws_eqRtTaskS_ww N) := by
  intro R args H K r h
  unfold o_laws_eqRtTaskS_ww at h
  dsimp only at h
  split at h
  · exact fnB_ok (ids := [0]) (top := [0]) ok (O_laws_eqRtTaskS_ww_ok N) (jn_ok _ _) Go.Proofs.Try.func38 (by kernel_rfl) (IT := IT_laws_eqRtTaskS_ww_0 N) (sl := sl_laws_eqRtTaskS_ww) (J := J_laws_eqRtTaskS_ww) (K := K) (H := [(Option.some (Go.Eng.HE.mk Bool.false (Go.Eng.HB.rows (Go.Sa.B.iRtTask _)))), (Option.some (Go.Eng.HE.mk Bool.false (Go.Eng.HB.rows (Go.Sa.B.iRtTask _))))]) (IT_laws_eqRtTaskS_ww_0_ok N) (by kernel_rfl) rfl ((e_laws_eqRtTaskS_ww N _ _ _ _ K).trans h)
  · cases h
/-! ### loop.example/g00038/laws.FnExactAdmit -/
abbrev sl_laws_FnExactAdmit_r : SlotT := []
abbrev J_laws_FnExactAdmit_r : JT := jn [] []
noncomputable def O_laws_FnExactAdmit_r (N : Nat) : Orc E := addFn 38 (o_laws_eqRtTaskS_ww N) (addFn 37 (o_impl_Admit_w N) (addFn 35 (o_spec_Admit_w N) (addFn 36 (o_laws_toRtTaskS_r N) (addFn 34 (o_laws_szRtTaskS_r N) (noFn)))))
theorem O_laws_FnExactAdmit_r_ok (N : Nat) : OrcOk (O_laws_FnExactAdmit_r N) := addFn_ok (o_laws_eqRtTaskS_ww_ok N) (addFn_ok (o_impl_Admit_w_ok N) (addFn_ok (o_spec_Admit_w_ok N) (addFn_ok (o_laws_toRtTaskS_r_ok N) (addFn_ok (o_laws_szRtTaskS_r_ok N) (noFn_ok)))))
def g_laws_FnExactAdmit_r (N : Nat) {R : Type} (b : Bool) (l : List Go.Sa.RtTask) (k : Bool → Option R) : Option R :=
  (g_laws_szRtTaskS_r N b (1048576 : Int) l fun n =>
  (cond (decide ((n < (0 : Int))))
  (k Bool.true)
  (g_laws_toRtTaskS_r N b l fun l1 =>
    (g_spec_Admit_w N Bool.false l1 fun b1 =>
    (g_laws_toRtTaskS_r N b l fun l2 =>
    (g_impl_Admit_w N Bool.false l2 fun b2 =>
    (cond (!(b2 == b1))
    (k Bool.false)
    (g_laws_toRtTaskS_r N b l fun l3 =>
      (g_laws_eqRtTaskS_ww N Bool.false Bool.false l2 l3 fun b3 =>
      (cond (!b3)
      (k Bool.false)
      (k Bool.true)))))))))))
theorem e_laws_FnExactAdmit_r (N : Nat) {R : Type} (b : Bool) (l : List Go.Sa.RtTask) (K : AV → Hp E → Option R) :
    runFnI (E := E) (O_laws_FnExactAdmit_r N) (noIt) sl_laws_FnExactAdmit_r J_laws_FnExactAdmit_r Go.Proofs.Try.f7 [(Go.Eng.AV.sc (Go.Eng.SV.slc 0 Option.none b))] [(Option.some (Go.Eng.HE.mk Bool.true (Go.Eng.HB.rows (Go.Sa.B.lRtTask l))))] K =
      g_laws_FnExactAdmit_r N b l (fun b4 => K (Go.Eng.AV.sc (Go.Eng.SV.bool b4)) [(Option.some (Go.Eng.HE.mk Bool.true (Go.Eng.HB.rows (Go.Sa.B.lRtTask l))))]) := by kernel_rfl
def o_laws_FnExactAdmit_r (N : Nat) {R : Type} (args : List AV) (H : Hp E) (K : AV → Hp E → Option R) : Option R :=
  match args, H with
  | [(Go.Eng.AV.sc (Go.Eng.SV.slc 0 Option.none b))], [(Option.some (Go.Eng.HE.mk Bool.true (Go.Eng.HB.rows (Go.Sa.B.lRtTask l))))] => g_laws_FnExactAdmit_r N b l (fun b4 => K (Go.Eng.AV.sc (Go.Eng.SV.bool b4)) [(Option.some (Go.Eng.HE.mk Bool.true (Go.Eng.HB.rows (Go.Sa.B.lRtTask l))))])
  | _, _ => none
theorem o_laws_FnExactAdmit_r_ok (N : Nat) : FnOk E 7 (o_laws_FnExactAdmit_r N) := by
  intro R args H K r h
  unfold o_laws_FnExactAdmit_r at h
  dsimp only at h
  split at h
  · exact fnB_ok (ids := []) (top := []) ok (O_laws_FnExactAdmit_r_ok N) (jn_ok _ _) Go.Proofs.Try.func7 (by kernel_rfl) (IT := noIt) (sl := sl_laws_FnExactAdmit_r) (J := J_laws_FnExactAdmit_r) (K := K) (H := [(Option.some (Go.Eng.HE.mk Bool.true (Go.Eng.HB.rows (Go.Sa.B.lRtTask _))))]) (noIt_ok) (by kernel_rfl) rfl ((e_laws_FnExactAdmit_r N _ _ K).trans h)
  · cases h
end Go.Sa
