import Derived.Test.YtaeklgiikmjgfaaSpec
import Derived.Test.YtaeklgiikmjgfaaPLb
import Derived.Test.YtaeklgiikmjgfaaW2
set_option linter.all false
namespace Go.Sa
open Go Go.Eng Go.Proofs
set_option maxRecDepth 100000
set_option maxHeartbeats 4000000
/-! ### slices.IndexFunc[[]loop.example/g00038/impl.RtTask,loop.example/g00038/impl.RtTask] -/
abbrev sl_slices_IndexFunc_RtTask_Fimpl_ytasksOk_1_r : SlotT := [(0, ([0, 1, 7, 8], [4]))]
abbrev J_slices_IndexFunc_RtTask_Fimpl_ytasksOk_1_r : JT := jn [] [] []
noncomputable def O_slices_IndexFunc_RtTask_Fimpl_ytasksOk_1_r (N : Nat) : Orc E := addFn 37 (o_impl_ytasksOk_1 N) (noFn)
theorem O_slices_IndexFunc_RtTask_Fimpl_ytasksOk_1_r_ok (N : Nat) : OrcOk (O_slices_IndexFunc_RtTask_Fimpl_ytasksOk_1_r N) := addFn_ok (o_impl_ytasksOk_1_ok N) (noFn_ok)
noncomputable def s_slices_IndexFunc_RtTask_Fimpl_ytasksOk_1_r_0 (N : Nat) {R : Type} (b1 : Bool) (n : Int) (l1 : List RtTask) (n1 : Int) (ag : Int → Option R)  (kR : Int → Option R) (kN : Option R) : Option R :=
 (cond (decide ((n1 < n)))
 (cond ((decide (((0 : Int) ≤ n1))) && (decide ((n1 < (((List.length l1) : Nat) : Int)))))
 (elemK l1 (Int.toNat n1) fun x =>
 (g_impl_ytasksOk_1 N (RtTask.fStart x) (RtTask.fPeriod x) (RtTask.fBudget x) fun b2 =>
 (cond b2
 (kR n1)
 (ag (IntKind.wrap IntKind.i64 (n1 + (1 : Int)))))))
 none)
 kN)
noncomputable def l_slices_IndexFunc_RtTask_Fimpl_ytasksOk_1_r_0 (N : Nat) {R : Type} (b1 : Bool) (n : Int) (l1 : List RtTask) (kR : Int → Option R) (kN : Option R) : Nat → Int → Option R
 | 0, _ => none
 | f + 1, n1 => s_slices_IndexFunc_RtTask_Fimpl_ytasksOk_1_r_0 N b1 n l1 n1 (fun n1 => l_slices_IndexFunc_RtTask_Fimpl_ytasksOk_1_r_0 N b1 n l1 kR kN f n1)  kR kN
noncomputable def c_slices_IndexFunc_RtTask_Fimpl_ytasksOk_1_r_0 (N : Nat) {R : Type} (b1 : Bool) (n : Int) (l1 : List RtTask) (n1 : Int) (kR : Int → Option R) (kN : Option R) : Option R := l_slices_IndexFunc_RtTask_Fimpl_ytasksOk_1_r_0 N b1 n l1 kR kN N n1
theorem se_slices_IndexFunc_RtTask_Fimpl_ytasksOk_1_r_0 (N : Nat) {R : Type} (b1 : Bool) (n : Int) (l1 : List RtTask) (n1 : Int) (AG : List (Option AV) → Hp E → Option R) (KL : Ex → List (Option AV) → Hp E → Option R) :
    iterStep (E := E) (O_slices_IndexFunc_RtTask_Fimpl_ytasksOk_1_r N) (fun {R} => LI (noIt) 1 19 sl_slices_IndexFunc_RtTask_Fimpl_ytasksOk_1_r (R := R)) J_slices_IndexFunc_RtTask_Fimpl_ytasksOk_1_r 1 19 0 [0, 1, 7, 8] [4] (body Try.f46 0) AG KL [(some (AV.sc (SV.slc 0 none b1))), (some (AV.sc (SV.fn 37 []))), (some (AV.sc (SV.int IntKind.i64 n))), (some (AV.sc (SV.int IntKind.i64 n1)))] [(some (HE.mk true (HB.rows (B.iRtTask l1))))] =
      s_slices_IndexFunc_RtTask_Fimpl_ytasksOk_1_r_0 N b1 n l1 n1 (fun n1 => AG [(some (AV.sc (SV.slc 0 none b1))), (some (AV.sc (SV.fn 37 []))), (some (AV.sc (SV.int IntKind.i64 n))), (some (AV.sc (SV.int IntKind.i64 n1)))] [(some (HE.mk true (HB.rows (B.iRtTask l1))))])  (fun n4 => KL Ex.ret [(some (AV.sc (SV.int IntKind.i64 n4)))] [(some (HE.mk true (HB.rows (B.iRtTask l1))))]) (KL Ex.normal [none] [(some (HE.mk true (HB.rows (B.iRtTask l1))))]) := by kernel_rfl
theorem le_slices_IndexFunc_RtTask_Fimpl_ytasksOk_1_r_0 (N : Nat) {R : Type} (b1 : Bool) (n : Int) (l1 : List RtTask) (KL : Ex → List (Option AV) → Hp E → Option R) : ∀ (f : Nat), ∀ (n1 : Int), iterK (E := E) (O_slices_IndexFunc_RtTask_Fimpl_ytasksOk_1_r N) (fun {R} => LI (noIt) 1 19 sl_slices_IndexFunc_RtTask_Fimpl_ytasksOk_1_r (R := R)) J_slices_IndexFunc_RtTask_Fimpl_ytasksOk_1_r 1 19 0 [0, 1, 7, 8] [4] (body Try.f46 0) f [(some (AV.sc (SV.slc 0 none b1))), (some (AV.sc (SV.fn 37 []))), (some (AV.sc (SV.int IntKind.i64 n))), (some (AV.sc (SV.int IntKind.i64 n1)))] [(some (HE.mk true (HB.rows (B.iRtTask l1))))] KL = l_slices_IndexFunc_RtTask_Fimpl_ytasksOk_1_r_0 N b1 n l1 (fun n4 => KL Ex.ret [(some (AV.sc (SV.int IntKind.i64 n4)))] [(some (HE.mk true (HB.rows (B.iRtTask l1))))]) (KL Ex.normal [none] [(some (HE.mk true (HB.rows (B.iRtTask l1))))]) f n1 := by
  intro f
  induction f with
  | zero => intros; rfl
  | succ f ih =>
    intro n1
    rw [iterK_succ, se_slices_IndexFunc_RtTask_Fimpl_ytasksOk_1_r_0]
    exact (congrArg (fun z0 => s_slices_IndexFunc_RtTask_Fimpl_ytasksOk_1_r_0 N b1 n l1 n1 z0 (fun n4 => KL Ex.ret [(some (AV.sc (SV.int IntKind.i64 n4)))] [(some (HE.mk true (HB.rows (B.iRtTask l1))))]) (KL Ex.normal [none] [(some (HE.mk true (HB.rows (B.iRtTask l1))))])) (funext fun n1 => ih n1))
noncomputable def i_slices_IndexFunc_RtTask_Fimpl_ytasksOk_1_r_0 (N : Nat) {R : Type} (vs : List (Option AV)) (H : Hp E) (KL : Ex → List (Option AV) → Hp E → Option R) : Option R :=
 match vs, H with
 | [(some (AV.sc (SV.slc 0 none b1))), (some (AV.sc (SV.fn 37 []))), (some (AV.sc (SV.int IntKind.i64 n))), (some (AV.sc (SV.int IntKind.i64 n1)))], [(some (HE.mk true (HB.rows (B.iRtTask l1))))] => c_slices_IndexFunc_RtTask_Fimpl_ytasksOk_1_r_0 N b1 n l1 n1 (fun n5 => KL Ex.ret [(some (AV.sc (SV.int IntKind.i64 n5)))] [(some (HE.mk true (HB.rows (B.iRtTask l1))))]) (KL Ex.normal [none] [(some (HE.mk true (HB.rows (B.iRtTask l1))))])
 | _, _ => none
noncomputable def IT_slices_IndexFunc_RtTask_Fimpl_ytasksOk_1_r_0 (N : Nat) : Its E := addIt 0 (i_slices_IndexFunc_RtTask_Fimpl_ytasksOk_1_r_0 N) (noIt)
theorem IT_slices_IndexFunc_RtTask_Fimpl_ytasksOk_1_r_0_ok (N : Nat) : ItOk (IT_slices_IndexFunc_RtTask_Fimpl_ytasksOk_1_r_0 N) 1 19 sl_slices_IndexFunc_RtTask_Fimpl_ytasksOk_1_r (lsB Try.f46 [0]) :=
  addItB_ok (inner := []) ok (O_slices_IndexFunc_RtTask_Fimpl_ytasksOk_1_r_ok N) (jn_ok _ _ _) (noIt_ok) rfl (by kernel_rfl) rfl fun vs H KL r h => by
    unfold i_slices_IndexFunc_RtTask_Fimpl_ytasksOk_1_r_0 at h
    split at h
    · exact ⟨_, (le_slices_IndexFunc_RtTask_Fimpl_ytasksOk_1_r_0 N _ _ _ KL N _).trans h⟩
    · cases h
noncomputable def g_slices_IndexFunc_RtTask_Fimpl_ytasksOk_1_r (N : Nat) {R : Type} (b : Bool) (l : List RtTask) (k : Int → Option R) : Option R :=
 (c_slices_IndexFunc_RtTask_Fimpl_ytasksOk_1_r_0 N b (((List.length l) : Nat) : Int) l (0 : Int) (fun n2 =>
 (k n2)) (
 (k (-(1 : Int)))))
theorem e_slices_IndexFunc_RtTask_Fimpl_ytasksOk_1_r (N : Nat) {R : Type} (b : Bool) (l : List RtTask) (K : AV → Hp E → Option R) :
    runFnI (E := E) (O_slices_IndexFunc_RtTask_Fimpl_ytasksOk_1_r N) (IT_slices_IndexFunc_RtTask_Fimpl_ytasksOk_1_r_0 N) sl_slices_IndexFunc_RtTask_Fimpl_ytasksOk_1_r J_slices_IndexFunc_RtTask_Fimpl_ytasksOk_1_r Try.f46 [(AV.sc (SV.slc 0 none b)), (AV.sc (SV.fn 37 []))] [(some (HE.mk true (HB.rows (B.iRtTask l))))] K =
      g_slices_IndexFunc_RtTask_Fimpl_ytasksOk_1_r N b l (fun n3 => K (AV.sc (SV.int IntKind.i64 n3)) [(some (HE.mk true (HB.rows (B.iRtTask l))))]) := by kernel_rfl
noncomputable def o_slices_IndexFunc_RtTask_Fimpl_ytasksOk_1_r (N : Nat) {R : Type} (args : List AV) (H : Hp E) (K : AV → Hp E → Option R) : Option R :=
 match args, H with
 | [(AV.sc (SV.slc 0 none b)), (AV.sc (SV.fn 37 []))], [(some (HE.mk true (HB.rows (B.iRtTask l))))] => g_slices_IndexFunc_RtTask_Fimpl_ytasksOk_1_r N b l (fun n3 => K (AV.sc (SV.int IntKind.i64 n3)) [(some (HE.mk true (HB.rows (B.iRtTask l))))])
 | _, _ => none
theorem o_slices_IndexFunc_RtTask_Fimpl_ytasksOk_1_r_ok (N : Nat) : FnOk E 46 (o_slices_IndexFunc_RtTask_Fimpl_ytasksOk_1_r N) := by
  intro R args H K r h
  unfold o_slices_IndexFunc_RtTask_Fimpl_ytasksOk_1_r at h
  dsimp only at h
  split at h
  · exact fnB_ok (ids := [0]) (top := [0]) ok (O_slices_IndexFunc_RtTask_Fimpl_ytasksOk_1_r_ok N) (jn_ok _ _ _) Try.func46 (by kernel_rfl) (IT := IT_slices_IndexFunc_RtTask_Fimpl_ytasksOk_1_r_0 N) (sl := sl_slices_IndexFunc_RtTask_Fimpl_ytasksOk_1_r) (J := J_slices_IndexFunc_RtTask_Fimpl_ytasksOk_1_r) (K := K) (H := [(some (HE.mk true (HB.rows (B.iRtTask _))))]) (IT_slices_IndexFunc_RtTask_Fimpl_ytasksOk_1_r_0_ok N) (by kernel_rfl) rfl ((e_slices_IndexFunc_RtTask_Fimpl_ytasksOk_1_r N _ _ K).trans h)
  · cases h
/-! ### slices.ContainsFunc[[]loop.example/g00038/impl.RtTask,loop.example/g00038/impl.RtTask] -/
abbrev sl_slices_ContainsFunc_RtTask_Fimpl_ytasksOk_1_r : SlotT := []
abbrev J_slices_ContainsFunc_RtTask_Fimpl_ytasksOk_1_r : JT := jn [] [] []
noncomputable def O_slices_ContainsFunc_RtTask_Fimpl_ytasksOk_1_r (N : Nat) : Orc E := addFn 46 (o_slices_IndexFunc_RtTask_Fimpl_ytasksOk_1_r N) (noFn)
theorem O_slices_ContainsFunc_RtTask_Fimpl_ytasksOk_1_r_ok (N : Nat) : OrcOk (O_slices_ContainsFunc_RtTask_Fimpl_ytasksOk_1_r N) := addFn_ok (o_slices_IndexFunc_RtTask_Fimpl_ytasksOk_1_r_ok N) (noFn_ok)
noncomputable def g_slices_ContainsFunc_RtTask_Fimpl_ytasksOk_1_r (N : Nat) {R : Type} (b : Bool) (l : List RtTask) (k : Bool → Option R) : Option R :=
 (g_slices_IndexFunc_RtTask_Fimpl_ytasksOk_1_r N b l fun n =>
 (k (decide ((n ≥ (0 : Int))))))
theorem e_slices_ContainsFunc_RtTask_Fimpl_ytasksOk_1_r (N : Nat) {R : Type} (b : Bool) (l : List RtTask) (K : AV → Hp E → Option R) :
    runFnI (E := E) (O_slices_ContainsFunc_RtTask_Fimpl_ytasksOk_1_r N) (noIt) sl_slices_ContainsFunc_RtTask_Fimpl_ytasksOk_1_r J_slices_ContainsFunc_RtTask_Fimpl_ytasksOk_1_r Try.f36 [(AV.sc (SV.slc 0 none b)), (AV.sc (SV.fn 37 []))] [(some (HE.mk true (HB.rows (B.iRtTask l))))] K =
      g_slices_ContainsFunc_RtTask_Fimpl_ytasksOk_1_r N b l (fun b1 => K (AV.sc (SV.bool b1)) [(some (HE.mk true (HB.rows (B.iRtTask l))))]) := by kernel_rfl
noncomputable def o_slices_ContainsFunc_RtTask_Fimpl_ytasksOk_1_r (N : Nat) {R : Type} (args : List AV) (H : Hp E) (K : AV → Hp E → Option R) : Option R :=
 match args, H with
 | [(AV.sc (SV.slc 0 none b)), (AV.sc (SV.fn 37 []))], [(some (HE.mk true (HB.rows (B.iRtTask l))))] => g_slices_ContainsFunc_RtTask_Fimpl_ytasksOk_1_r N b l (fun b1 => K (AV.sc (SV.bool b1)) [(some (HE.mk true (HB.rows (B.iRtTask l))))])
 | _, _ => none
theorem o_slices_ContainsFunc_RtTask_Fimpl_ytasksOk_1_r_ok (N : Nat) : FnOk E 36 (o_slices_ContainsFunc_RtTask_Fimpl_ytasksOk_1_r N) := by
  intro R args H K r h
  unfold o_slices_ContainsFunc_RtTask_Fimpl_ytasksOk_1_r at h
  dsimp only at h
  split at h
  · exact fnB_ok (ids := []) (top := []) ok (O_slices_ContainsFunc_RtTask_Fimpl_ytasksOk_1_r_ok N) (jn_ok _ _ _) Try.func36 (by kernel_rfl) (IT := noIt) (sl := sl_slices_ContainsFunc_RtTask_Fimpl_ytasksOk_1_r) (J := J_slices_ContainsFunc_RtTask_Fimpl_ytasksOk_1_r) (K := K) (H := [(some (HE.mk true (HB.rows (B.iRtTask _))))]) (noIt_ok) (by kernel_rfl) rfl ((e_slices_ContainsFunc_RtTask_Fimpl_ytasksOk_1_r N _ _ K).trans h)
  · cases h
/-! ### loop.example/g00038/impl.ytasksOk -/
abbrev sl_impl_ytasksOk_r : SlotT := []
abbrev J_impl_ytasksOk_r : JT := jn [(1, [(2, .b)])] [] []
noncomputable def O_impl_ytasksOk_r (N : Nat) : Orc E := addFn 36 (o_slices_ContainsFunc_RtTask_Fimpl_ytasksOk_1_r N) (noFn)
theorem O_impl_ytasksOk_r_ok (N : Nat) : OrcOk (O_impl_ytasksOk_r N) := addFn_ok (o_slices_ContainsFunc_RtTask_Fimpl_ytasksOk_1_r_ok N) (noFn_ok)
noncomputable def g_impl_ytasksOk_r (N : Nat) {R : Type} (b : Bool) (l : List RtTask) (k : Bool → Option R) : Option R :=
 (oK (cond (decide (((((List.length l) : Nat) : Int) ≤ (8 : Int))))
 (g_slices_ContainsFunc_RtTask_Fimpl_ytasksOk_1_r N b l fun b1 =>
 (some (!b1)))
 (some false)) fun j =>
 (k j))
theorem e_impl_ytasksOk_r (N : Nat) {R : Type} (b : Bool) (l : List RtTask) (K : AV → Hp E → Option R) :
    runFnI (E := E) (O_impl_ytasksOk_r N) (noIt) sl_impl_ytasksOk_r J_impl_ytasksOk_r Try.f21 [(AV.sc (SV.slc 0 none b))] [(some (HE.mk true (HB.rows (B.iRtTask l))))] K =
      g_impl_ytasksOk_r N b l (fun b2 => K (AV.sc (SV.bool b2)) [(some (HE.mk true (HB.rows (B.iRtTask l))))]) := by kernel_rfl
noncomputable def o_impl_ytasksOk_r (N : Nat) {R : Type} (args : List AV) (H : Hp E) (K : AV → Hp E → Option R) : Option R :=
 match args, H with
 | [(AV.sc (SV.slc 0 none b))], [(some (HE.mk true (HB.rows (B.iRtTask l))))] => g_impl_ytasksOk_r N b l (fun b2 => K (AV.sc (SV.bool b2)) [(some (HE.mk true (HB.rows (B.iRtTask l))))])
 | _, _ => none
theorem o_impl_ytasksOk_r_ok (N : Nat) : FnOk E 21 (o_impl_ytasksOk_r N) := by
  intro R args H K r h
  unfold o_impl_ytasksOk_r at h
  dsimp only at h
  split at h
  · exact fnB_ok (ids := []) (top := []) ok (O_impl_ytasksOk_r_ok N) (jn_ok _ _ _) Try.func21 (by kernel_rfl) (IT := noIt) (sl := sl_impl_ytasksOk_r) (J := J_impl_ytasksOk_r) (K := K) (H := [(some (HE.mk true (HB.rows (B.iRtTask _))))]) (noIt_ok) (by kernel_rfl) rfl ((e_impl_ytasksOk_r N _ _ K).trans h)
  · cases h
end Go.Sa
