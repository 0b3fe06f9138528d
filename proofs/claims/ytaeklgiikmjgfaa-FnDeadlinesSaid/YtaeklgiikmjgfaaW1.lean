import Derived.Test.YtaeklgiikmjgfaaSpec
import Derived.Test.YtaeklgiikmjgfaaPLb
import Derived.Test.YtaeklgiikmjgfaaW0
set_option linter.all false
namespace Go.Sa
open Go Go.Eng Go.Proofs
set_option maxRecDepth 100000
set_option maxHeartbeats 4000000
/-! ### loop.example/g00038/spec.l18Tasks -/
abbrev sl_spec_l18Tasks_r : SlotT := [(0, ([0, 3], [2]))]
abbrev J_spec_l18Tasks_r : JT := jn [(7, [(47, .b)])] [] []
noncomputable def O_spec_l18Tasks_r (N : Nat) : Orc E := noFn
theorem O_spec_l18Tasks_r_ok (N : Nat) : OrcOk (O_spec_l18Tasks_r N) := noFn_ok
noncomputable def s_spec_l18Tasks_r_0 (N : Nat) {R : Type} (b1 : Bool) (l1 : List RtTask) (n : Int) (ag : Int → Option R)  (kR : Option R) (kN : Option R) : Option R :=
 (cond (decide ((n < (((List.length l1) : Nat) : Int))))
 (cond ((decide (((0 : Int) ≤ n))) && (decide ((n < (((List.length l1) : Nat) : Int)))))
 (elemK l1 (Int.toNat n) fun x =>
 (oK (cond (decide (((RtTask.fStart x) < (0 : Int))))
 (some true)
 (cond (decide (((RtTask.fStart x) > (100 : Int))))
 (some true)
 (cond (decide (((RtTask.fPeriod x) < (1 : Int))))
 (some true)
 (cond (decide (((RtTask.fPeriod x) > (40 : Int))))
 (some true)
 (cond (decide (((RtTask.fBudget x) < (1 : Int))))
 (some true)
 (some (decide (((RtTask.fBudget x) > (RtTask.fPeriod x)))))))))) fun j =>
 (cond j
 kR
 (ag (IntKind.wrap IntKind.i64 (n + (1 : Int)))))))
 none)
 kN)
noncomputable def l_spec_l18Tasks_r_0 (N : Nat) {R : Type} (b1 : Bool) (l1 : List RtTask) (kR : Option R) (kN : Option R) : Nat → Int → Option R
 | 0, _ => none
 | f + 1, n => s_spec_l18Tasks_r_0 N b1 l1 n (fun n => l_spec_l18Tasks_r_0 N b1 l1 kR kN f n)  kR kN
noncomputable def c_spec_l18Tasks_r_0 (N : Nat) {R : Type} (b1 : Bool) (l1 : List RtTask) (n : Int) (kR : Option R) (kN : Option R) : Option R := l_spec_l18Tasks_r_0 N b1 l1 kR kN N n
theorem se_spec_l18Tasks_r_0 (N : Nat) {R : Type} (b1 : Bool) (l1 : List RtTask) (n : Int) (AG : List (Option AV) → Hp E → Option R) (KL : Ex → List (Option AV) → Hp E → Option R) :
    iterStep (E := E) (O_spec_l18Tasks_r N) (fun {R} => LI (noIt) 1 48 sl_spec_l18Tasks_r (R := R)) J_spec_l18Tasks_r 1 48 0 [0, 3] [2] (body Try.f20 0) AG KL [(some (AV.sc (SV.slc 0 none b1))), (some (AV.sc (SV.int IntKind.i64 n)))] [(some (HE.mk true (HB.rows (B.iRtTask l1))))] =
      s_spec_l18Tasks_r_0 N b1 l1 n (fun n => AG [(some (AV.sc (SV.slc 0 none b1))), (some (AV.sc (SV.int IntKind.i64 n)))] [(some (HE.mk true (HB.rows (B.iRtTask l1))))])  (KL Ex.ret [(some (AV.sc (SV.bool false)))] [(some (HE.mk true (HB.rows (B.iRtTask l1))))]) (KL Ex.normal [none] [(some (HE.mk true (HB.rows (B.iRtTask l1))))]) := by kernel_rfl
theorem le_spec_l18Tasks_r_0 (N : Nat) {R : Type} (b1 : Bool) (l1 : List RtTask) (KL : Ex → List (Option AV) → Hp E → Option R) : ∀ (f : Nat), ∀ (n : Int), iterK (E := E) (O_spec_l18Tasks_r N) (fun {R} => LI (noIt) 1 48 sl_spec_l18Tasks_r (R := R)) J_spec_l18Tasks_r 1 48 0 [0, 3] [2] (body Try.f20 0) f [(some (AV.sc (SV.slc 0 none b1))), (some (AV.sc (SV.int IntKind.i64 n)))] [(some (HE.mk true (HB.rows (B.iRtTask l1))))] KL = l_spec_l18Tasks_r_0 N b1 l1 (KL Ex.ret [(some (AV.sc (SV.bool false)))] [(some (HE.mk true (HB.rows (B.iRtTask l1))))]) (KL Ex.normal [none] [(some (HE.mk true (HB.rows (B.iRtTask l1))))]) f n := by
  intro f
  induction f with
  | zero => intros; rfl
  | succ f ih =>
    intro n
    rw [iterK_succ, se_spec_l18Tasks_r_0]
    exact (congrArg (fun z0 => s_spec_l18Tasks_r_0 N b1 l1 n z0 (KL Ex.ret [(some (AV.sc (SV.bool false)))] [(some (HE.mk true (HB.rows (B.iRtTask l1))))]) (KL Ex.normal [none] [(some (HE.mk true (HB.rows (B.iRtTask l1))))])) (funext fun n => ih n))
noncomputable def i_spec_l18Tasks_r_0 (N : Nat) {R : Type} (vs : List (Option AV)) (H : Hp E) (KL : Ex → List (Option AV) → Hp E → Option R) : Option R :=
 match vs, H with
 | [(some (AV.sc (SV.slc 0 none b1))), (some (AV.sc (SV.int IntKind.i64 n)))], [(some (HE.mk true (HB.rows (B.iRtTask l1))))] => c_spec_l18Tasks_r_0 N b1 l1 n (KL Ex.ret [(some (AV.sc (SV.bool false)))] [(some (HE.mk true (HB.rows (B.iRtTask l1))))]) (KL Ex.normal [none] [(some (HE.mk true (HB.rows (B.iRtTask l1))))])
 | _, _ => none
noncomputable def IT_spec_l18Tasks_r_0 (N : Nat) : Its E := addIt 0 (i_spec_l18Tasks_r_0 N) (noIt)
theorem IT_spec_l18Tasks_r_0_ok (N : Nat) : ItOk (IT_spec_l18Tasks_r_0 N) 1 48 sl_spec_l18Tasks_r (lsB Try.f20 [0]) :=
  addItB_ok (inner := []) ok (O_spec_l18Tasks_r_ok N) (jn_ok _ _ _) (noIt_ok) rfl (by kernel_rfl) rfl fun vs H KL r h => by
    unfold i_spec_l18Tasks_r_0 at h
    split at h
    · exact ⟨_, (le_spec_l18Tasks_r_0 N _ _ KL N _).trans h⟩
    · cases h
noncomputable def g_spec_l18Tasks_r (N : Nat) {R : Type} (b : Bool) (l : List RtTask) (k : Bool → Option R) : Option R :=
 (cond (decide (((((List.length l) : Nat) : Int) > (8 : Int))))
 (k false)
 (c_spec_l18Tasks_r_0 N b l (0 : Int) (
 (k false)) (
 (k true))))
theorem e_spec_l18Tasks_r (N : Nat) {R : Type} (b : Bool) (l : List RtTask) (K : AV → Hp E → Option R) :
    runFnI (E := E) (O_spec_l18Tasks_r N) (IT_spec_l18Tasks_r_0 N) sl_spec_l18Tasks_r J_spec_l18Tasks_r Try.f20 [(AV.sc (SV.slc 0 none b))] [(some (HE.mk true (HB.rows (B.iRtTask l))))] K =
      g_spec_l18Tasks_r N b l (fun b2 => K (AV.sc (SV.bool b2)) [(some (HE.mk true (HB.rows (B.iRtTask l))))]) := by kernel_rfl
noncomputable def o_spec_l18Tasks_r (N : Nat) {R : Type} (args : List AV) (H : Hp E) (K : AV → Hp E → Option R) : Option R :=
 match args, H with
 | [(AV.sc (SV.slc 0 none b))], [(some (HE.mk true (HB.rows (B.iRtTask l))))] => g_spec_l18Tasks_r N b l (fun b2 => K (AV.sc (SV.bool b2)) [(some (HE.mk true (HB.rows (B.iRtTask l))))])
 | _, _ => none
theorem o_spec_l18Tasks_r_ok (N : Nat) : FnOk E 20 (o_spec_l18Tasks_r N) := by
  intro R args H K r h
  unfold o_spec_l18Tasks_r at h
  dsimp only at h
  split at h
  · exact fnB_ok (ids := [0]) (top := [0]) ok (O_spec_l18Tasks_r_ok N) (jn_ok _ _ _) Try.func20 (by kernel_rfl) (IT := IT_spec_l18Tasks_r_0 N) (sl := sl_spec_l18Tasks_r) (J := J_spec_l18Tasks_r) (K := K) (H := [(some (HE.mk true (HB.rows (B.iRtTask _))))]) (IT_spec_l18Tasks_r_0_ok N) (by kernel_rfl) rfl ((e_spec_l18Tasks_r N _ _ K).trans h)
  · cases h
end Go.Sa
