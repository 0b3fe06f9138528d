import Derived.Test.YtaeklgiikmjgfaaSpec
import Derived.Test.YtaeklgiikmjgfaaPLb
import Derived.Test.YtaeklgiikmjgfaaW4
set_option linter.all false
namespace Go.Sa
open Go Go.Eng Go.Proofs
set_option maxRecDepth 100000
set_option maxHeartbeats 4000000
/-! ### loop.example/g00038/laws.lwInts -/
abbrev sl_laws_lwInts_rr : SlotT := [(0, ([0, 1, 5], [4]))]
abbrev J_laws_lwInts_rr : JT := jn [] [] []
noncomputable def O_laws_lwInts_rr (N : Nat) : Orc E := noFn
theorem O_laws_lwInts_rr_ok (N : Nat) : OrcOk (O_laws_lwInts_rr N) := noFn_ok
noncomputable def s_laws_lwInts_rr_0 (N : Nat) {R : Type} (b2 : Bool) (b3 : Bool) (l2 : List Int) (l3 : List Int) (n : Int) (ag : Int → Option R)  (kR : Option R) (kN : Option R) : Option R :=
 (cond (decide ((n < (((List.length l2) : Nat) : Int))))
 (cond ((decide (((0 : Int) ≤ n))) && (decide ((n < (((List.length l2) : Nat) : Int)))))
 (elemK l2 (Int.toNat n) fun x =>
 (cond ((decide (((0 : Int) ≤ n))) && (decide ((n < (((List.length l3) : Nat) : Int)))))
 (elemK l3 (Int.toNat n) fun x1 =>
 (cond (x != x1)
 kR
 (ag (IntKind.wrap IntKind.i64 (n + (1 : Int))))))
 none))
 none)
 kN)
noncomputable def l_laws_lwInts_rr_0 (N : Nat) {R : Type} (b2 : Bool) (b3 : Bool) (l2 : List Int) (l3 : List Int) (kR : Option R) (kN : Option R) : Nat → Int → Option R
 | 0, _ => none
 | f + 1, n => s_laws_lwInts_rr_0 N b2 b3 l2 l3 n (fun n => l_laws_lwInts_rr_0 N b2 b3 l2 l3 kR kN f n)  kR kN
noncomputable def c_laws_lwInts_rr_0 (N : Nat) {R : Type} (b2 : Bool) (b3 : Bool) (l2 : List Int) (l3 : List Int) (n : Int) (kR : Option R) (kN : Option R) : Option R := l_laws_lwInts_rr_0 N b2 b3 l2 l3 kR kN N n
theorem se_laws_lwInts_rr_0 (N : Nat) {R : Type} (b2 : Bool) (b3 : Bool) (l2 : List Int) (l3 : List Int) (n : Int) (AG : List (Option AV) → Hp E → Option R) (KL : Ex → List (Option AV) → Hp E → Option R) :
    iterStep (E := E) (O_laws_lwInts_rr N) (fun {R} => LI (noIt) 2 26 sl_laws_lwInts_rr (R := R)) J_laws_lwInts_rr 2 26 0 [0, 1, 5] [4] (body Try.f8 0) AG KL [(some (AV.sc (SV.slc 0 none b2))), (some (AV.sc (SV.slc 1 none b3))), (some (AV.sc (SV.int IntKind.i64 n)))] [(some (HE.mk true (HB.rows (B.i64 l2)))), (some (HE.mk true (HB.rows (B.i64 l3))))] =
      s_laws_lwInts_rr_0 N b2 b3 l2 l3 n (fun n => AG [(some (AV.sc (SV.slc 0 none b2))), (some (AV.sc (SV.slc 1 none b3))), (some (AV.sc (SV.int IntKind.i64 n)))] [(some (HE.mk true (HB.rows (B.i64 l2)))), (some (HE.mk true (HB.rows (B.i64 l3))))])  (KL Ex.ret [(some (AV.sc (SV.bool false)))] [(some (HE.mk true (HB.rows (B.i64 l2)))), (some (HE.mk true (HB.rows (B.i64 l3))))]) (KL Ex.normal [none] [(some (HE.mk true (HB.rows (B.i64 l2)))), (some (HE.mk true (HB.rows (B.i64 l3))))]) := by kernel_rfl
theorem le_laws_lwInts_rr_0 (N : Nat) {R : Type} (b2 : Bool) (b3 : Bool) (l2 : List Int) (l3 : List Int) (KL : Ex → List (Option AV) → Hp E → Option R) : ∀ (f : Nat), ∀ (n : Int), iterK (E := E) (O_laws_lwInts_rr N) (fun {R} => LI (noIt) 2 26 sl_laws_lwInts_rr (R := R)) J_laws_lwInts_rr 2 26 0 [0, 1, 5] [4] (body Try.f8 0) f [(some (AV.sc (SV.slc 0 none b2))), (some (AV.sc (SV.slc 1 none b3))), (some (AV.sc (SV.int IntKind.i64 n)))] [(some (HE.mk true (HB.rows (B.i64 l2)))), (some (HE.mk true (HB.rows (B.i64 l3))))] KL = l_laws_lwInts_rr_0 N b2 b3 l2 l3 (KL Ex.ret [(some (AV.sc (SV.bool false)))] [(some (HE.mk true (HB.rows (B.i64 l2)))), (some (HE.mk true (HB.rows (B.i64 l3))))]) (KL Ex.normal [none] [(some (HE.mk true (HB.rows (B.i64 l2)))), (some (HE.mk true (HB.rows (B.i64 l3))))]) f n := by
  intro f
  induction f with
  | zero => intros; rfl
  | succ f ih =>
    intro n
    rw [iterK_succ, se_laws_lwInts_rr_0]
    exact (congrArg (fun z0 => s_laws_lwInts_rr_0 N b2 b3 l2 l3 n z0 (KL Ex.ret [(some (AV.sc (SV.bool false)))] [(some (HE.mk true (HB.rows (B.i64 l2)))), (some (HE.mk true (HB.rows (B.i64 l3))))]) (KL Ex.normal [none] [(some (HE.mk true (HB.rows (B.i64 l2)))), (some (HE.mk true (HB.rows (B.i64 l3))))])) (funext fun n => ih n))
noncomputable def i_laws_lwInts_rr_0 (N : Nat) {R : Type} (vs : List (Option AV)) (H : Hp E) (KL : Ex → List (Option AV) → Hp E → Option R) : Option R :=
 match vs, H with
 | [(some (AV.sc (SV.slc 0 none b2))), (some (AV.sc (SV.slc 1 none b3))), (some (AV.sc (SV.int IntKind.i64 n)))], [(some (HE.mk true (HB.rows (B.i64 l2)))), (some (HE.mk true (HB.rows (B.i64 l3))))] => c_laws_lwInts_rr_0 N b2 b3 l2 l3 n (KL Ex.ret [(some (AV.sc (SV.bool false)))] [(some (HE.mk true (HB.rows (B.i64 l2)))), (some (HE.mk true (HB.rows (B.i64 l3))))]) (KL Ex.normal [none] [(some (HE.mk true (HB.rows (B.i64 l2)))), (some (HE.mk true (HB.rows (B.i64 l3))))])
 | _, _ => none
noncomputable def IT_laws_lwInts_rr_0 (N : Nat) : Its E := addIt 0 (i_laws_lwInts_rr_0 N) (noIt)
theorem IT_laws_lwInts_rr_0_ok (N : Nat) : ItOk (IT_laws_lwInts_rr_0 N) 2 26 sl_laws_lwInts_rr (lsB Try.f8 [0]) :=
  addItB_ok (inner := []) ok (O_laws_lwInts_rr_ok N) (jn_ok _ _ _) (noIt_ok) rfl (by kernel_rfl) rfl fun vs H KL r h => by
    unfold i_laws_lwInts_rr_0 at h
    split at h
    · exact ⟨_, (le_laws_lwInts_rr_0 N _ _ _ _ KL N _).trans h⟩
    · cases h
noncomputable def g_laws_lwInts_rr (N : Nat) {R : Type} (b : Bool) (b1 : Bool) (l : List Int) (l1 : List Int) (k : Bool → Option R) : Option R :=
 (cond ((((List.length l) : Nat) : Int) != (((List.length l1) : Nat) : Int))
 (k false)
 (c_laws_lwInts_rr_0 N b b1 l l1 (0 : Int) (
 (k false)) (
 (k true))))
theorem e_laws_lwInts_rr (N : Nat) {R : Type} (b : Bool) (b1 : Bool) (l : List Int) (l1 : List Int) (K : AV → Hp E → Option R) :
    runFnI (E := E) (O_laws_lwInts_rr N) (IT_laws_lwInts_rr_0 N) sl_laws_lwInts_rr J_laws_lwInts_rr Try.f8 [(AV.sc (SV.slc 0 none b)), (AV.sc (SV.slc 1 none b1))] [(some (HE.mk true (HB.rows (B.i64 l)))), (some (HE.mk true (HB.rows (B.i64 l1))))] K =
      g_laws_lwInts_rr N b b1 l l1 (fun b4 => K (AV.sc (SV.bool b4)) [(some (HE.mk true (HB.rows (B.i64 l)))), (some (HE.mk true (HB.rows (B.i64 l1))))]) := by kernel_rfl
noncomputable def o_laws_lwInts_rr (N : Nat) {R : Type} (args : List AV) (H : Hp E) (K : AV → Hp E → Option R) : Option R :=
 match args, H with
 | [(AV.sc (SV.slc 0 none b)), (AV.sc (SV.slc 1 none b1))], [(some (HE.mk true (HB.rows (B.i64 l)))), (some (HE.mk true (HB.rows (B.i64 l1))))] => g_laws_lwInts_rr N b b1 l l1 (fun b4 => K (AV.sc (SV.bool b4)) [(some (HE.mk true (HB.rows (B.i64 l)))), (some (HE.mk true (HB.rows (B.i64 l1))))])
 | _, _ => none
theorem o_laws_lwInts_rr_ok (N : Nat) : FnOk E 8 (o_laws_lwInts_rr N) := by
  intro R args H K r h
  unfold o_laws_lwInts_rr at h
  dsimp only at h
  split at h
  · exact fnB_ok (ids := [0]) (top := [0]) ok (O_laws_lwInts_rr_ok N) (jn_ok _ _ _) Try.func8 (by kernel_rfl) (IT := IT_laws_lwInts_rr_0 N) (sl := sl_laws_lwInts_rr) (J := J_laws_lwInts_rr) (K := K) (H := [(some (HE.mk true (HB.rows (B.i64 _)))), (some (HE.mk true (HB.rows (B.i64 _))))]) (IT_laws_lwInts_rr_0_ok N) (by kernel_rfl) rfl ((e_laws_lwInts_rr N _ _ _ _ K).trans h)
  · cases h
/-! ### loop.example/g00038/impl.Admit -/
abbrev sl_impl_Admit_r : SlotT := [(0, ([0, 3, 12, 13, 14], [0, 3])), (2, ([3, 6, 23, 24, 25], [3, 6]))]
abbrev J_impl_Admit_r : JT := jn [] [] []
noncomputable def O_impl_Admit_r (N : Nat) : Orc E := addFn 21 (o_impl_ytasksOk_r N) (noFn)
theorem O_impl_Admit_r_ok (N : Nat) : OrcOk (O_impl_Admit_r N) := addFn_ok (o_impl_ytasksOk_r_ok N) (noFn_ok)
noncomputable def s_impl_Admit_r_0 (N : Nat) {R : Type} (b2 : Bool) (b3 : Bool) (n1 : Int) (l1 : List RtTask) (n : Int) (n2 : Int) (ag : Int → Int → Option R)  (kN : Int → Option R) : Option R :=
 (cond (decide ((n2 < n1)))
 (cond ((decide (((0 : Int) ≤ n2))) && (decide ((n2 < (((List.length l1) : Nat) : Int)))))
 (elemK l1 (Int.toNat n2) fun x =>
 (ag (IntKind.wrap IntKind.i64 (n * (RtTask.fPeriod x))) (IntKind.wrap IntKind.i64 (n2 + (1 : Int)))))
 none)
 (kN n))
noncomputable def l_impl_Admit_r_0 (N : Nat) {R : Type} (b2 : Bool) (b3 : Bool) (n1 : Int) (l1 : List RtTask) (kN : Int → Option R) : Nat → Int → Int → Option R
 | 0, _, _ => none
 | f + 1, n, n2 => s_impl_Admit_r_0 N b2 b3 n1 l1 n n2 (fun n n2 => l_impl_Admit_r_0 N b2 b3 n1 l1 kN f n n2)  kN
noncomputable def c_impl_Admit_r_0 (N : Nat) {R : Type} (b2 : Bool) (b3 : Bool) (n1 : Int) (l1 : List RtTask) (n : Int) (n2 : Int) (kN : Int → Option R) : Option R := l_impl_Admit_r_0 N b2 b3 n1 l1 kN N n n2
theorem se_impl_Admit_r_0 (N : Nat) {R : Type} (b2 : Bool) (b3 : Bool) (n1 : Int) (l1 : List RtTask) (n : Int) (n2 : Int) (AG : List (Option AV) → Hp E → Option R) (KL : Ex → List (Option AV) → Hp E → Option R) :
    iterStep (E := E) (O_impl_Admit_r N) (fun {R} => LI (noIt) 1 42 sl_impl_Admit_r (R := R)) J_impl_Admit_r 1 42 0 [0, 3, 12, 13, 14] [0, 3] (body Try.f9 0) AG KL [(some (AV.sc (SV.slc 0 none b2))), (some (AV.sc (SV.int IntKind.i64 n))), (some (AV.sc (SV.slc 0 none b3))), (some (AV.sc (SV.int IntKind.i64 n1))), (some (AV.sc (SV.int IntKind.i64 n2)))] [(some (HE.mk true (HB.rows (B.iRtTask l1))))] =
      s_impl_Admit_r_0 N b2 b3 n1 l1 n n2 (fun n n2 => AG [(some (AV.sc (SV.slc 0 none b2))), (some (AV.sc (SV.int IntKind.i64 n))), (some (AV.sc (SV.slc 0 none b3))), (some (AV.sc (SV.int IntKind.i64 n1))), (some (AV.sc (SV.int IntKind.i64 n2)))] [(some (HE.mk true (HB.rows (B.iRtTask l1))))])  (fun n9 => KL Ex.normal [(some (AV.sc (SV.slc 0 none b2))), (some (AV.sc (SV.int IntKind.i64 n9)))] [(some (HE.mk true (HB.rows (B.iRtTask l1))))]) := by kernel_rfl
theorem le_impl_Admit_r_0 (N : Nat) {R : Type} (b2 : Bool) (b3 : Bool) (n1 : Int) (l1 : List RtTask) (KL : Ex → List (Option AV) → Hp E → Option R) : ∀ (f : Nat), ∀ (n : Int) (n2 : Int), iterK (E := E) (O_impl_Admit_r N) (fun {R} => LI (noIt) 1 42 sl_impl_Admit_r (R := R)) J_impl_Admit_r 1 42 0 [0, 3, 12, 13, 14] [0, 3] (body Try.f9 0) f [(some (AV.sc (SV.slc 0 none b2))), (some (AV.sc (SV.int IntKind.i64 n))), (some (AV.sc (SV.slc 0 none b3))), (some (AV.sc (SV.int IntKind.i64 n1))), (some (AV.sc (SV.int IntKind.i64 n2)))] [(some (HE.mk true (HB.rows (B.iRtTask l1))))] KL = l_impl_Admit_r_0 N b2 b3 n1 l1 (fun n9 => KL Ex.normal [(some (AV.sc (SV.slc 0 none b2))), (some (AV.sc (SV.int IntKind.i64 n9)))] [(some (HE.mk true (HB.rows (B.iRtTask l1))))]) f n n2 := by
  intro f
  induction f with
  | zero => intros; rfl
  | succ f ih =>
    intro n n2
    rw [iterK_succ, se_impl_Admit_r_0]
    exact (congrArg (fun z0 => s_impl_Admit_r_0 N b2 b3 n1 l1 n n2 z0 (fun n9 => KL Ex.normal [(some (AV.sc (SV.slc 0 none b2))), (some (AV.sc (SV.int IntKind.i64 n9)))] [(some (HE.mk true (HB.rows (B.iRtTask l1))))])) (funext fun n => funext fun n2 => ih n n2))
noncomputable def i_impl_Admit_r_0 (N : Nat) {R : Type} (vs : List (Option AV)) (H : Hp E) (KL : Ex → List (Option AV) → Hp E → Option R) : Option R :=
 match vs, H with
 | [(some (AV.sc (SV.slc 0 none b2))), (some (AV.sc (SV.int IntKind.i64 n))), (some (AV.sc (SV.slc 0 none b3))), (some (AV.sc (SV.int IntKind.i64 n1))), (some (AV.sc (SV.int IntKind.i64 n2)))], [(some (HE.mk true (HB.rows (B.iRtTask l1))))] => c_impl_Admit_r_0 N b2 b3 n1 l1 n n2 (fun n10 => KL Ex.normal [(some (AV.sc (SV.slc 0 none b2))), (some (AV.sc (SV.int IntKind.i64 n10)))] [(some (HE.mk true (HB.rows (B.iRtTask l1))))])
 | _, _ => none
noncomputable def IT_impl_Admit_r_0 (N : Nat) : Its E := addIt 0 (i_impl_Admit_r_0 N) (noIt)
theorem IT_impl_Admit_r_0_ok (N : Nat) : ItOk (IT_impl_Admit_r_0 N) 1 42 sl_impl_Admit_r (lsB Try.f9 [0]) :=
  addItB_ok (inner := []) ok (O_impl_Admit_r_ok N) (jn_ok _ _ _) (noIt_ok) rfl (by kernel_rfl) rfl fun vs H KL r h => by
    unfold i_impl_Admit_r_0 at h
    split at h
    · exact ⟨_, (le_impl_Admit_r_0 N _ _ _ _ KL N _ _).trans h⟩
    · cases h
noncomputable def s_impl_Admit_r_2 (N : Nat) {R : Type} (n4 : Int) (b4 : Bool) (n6 : Int) (l2 : List RtTask) (n5 : Int) (n7 : Int) (ag : Int → Int → Option R)  (kN : Int → Option R) : Option R :=
 (cond (decide ((n7 < n6)))
 (cond ((decide (((0 : Int) ≤ n7))) && (decide ((n7 < (((List.length l2) : Nat) : Int)))))
 (elemK l2 (Int.toNat n7) fun x1 =>
 (cond ((RtTask.fPeriod x1) == (0 : Int))
 none
 (ag (IntKind.wrap IntKind.i64 (n5 + (IntKind.wrap IntKind.i64 ((IntKind.wrap IntKind.i64 (Int.tdiv n4 (RtTask.fPeriod x1))) * (RtTask.fBudget x1))))) (IntKind.wrap IntKind.i64 (n7 + (1 : Int))))))
 none)
 (kN n5))
noncomputable def l_impl_Admit_r_2 (N : Nat) {R : Type} (n4 : Int) (b4 : Bool) (n6 : Int) (l2 : List RtTask) (kN : Int → Option R) : Nat → Int → Int → Option R
 | 0, _, _ => none
 | f + 1, n5, n7 => s_impl_Admit_r_2 N n4 b4 n6 l2 n5 n7 (fun n5 n7 => l_impl_Admit_r_2 N n4 b4 n6 l2 kN f n5 n7)  kN
noncomputable def c_impl_Admit_r_2 (N : Nat) {R : Type} (n4 : Int) (b4 : Bool) (n6 : Int) (l2 : List RtTask) (n5 : Int) (n7 : Int) (kN : Int → Option R) : Option R := l_impl_Admit_r_2 N n4 b4 n6 l2 kN N n5 n7
theorem se_impl_Admit_r_2 (N : Nat) {R : Type} (n4 : Int) (b4 : Bool) (n6 : Int) (l2 : List RtTask) (n5 : Int) (n7 : Int) (AG : List (Option AV) → Hp E → Option R) (KL : Ex → List (Option AV) → Hp E → Option R) :
    iterStep (E := E) (O_impl_Admit_r N) (fun {R} => LI (IT_impl_Admit_r_0 N) 1 42 sl_impl_Admit_r (R := R)) J_impl_Admit_r 1 42 2 [3, 6, 23, 24, 25] [3, 6] (body Try.f9 2) AG KL [(some (AV.sc (SV.int IntKind.i64 n4))), (some (AV.sc (SV.int IntKind.i64 n5))), (some (AV.sc (SV.slc 0 none b4))), (some (AV.sc (SV.int IntKind.i64 n6))), (some (AV.sc (SV.int IntKind.i64 n7)))] [(some (HE.mk true (HB.rows (B.iRtTask l2))))] =
      s_impl_Admit_r_2 N n4 b4 n6 l2 n5 n7 (fun n5 n7 => AG [(some (AV.sc (SV.int IntKind.i64 n4))), (some (AV.sc (SV.int IntKind.i64 n5))), (some (AV.sc (SV.slc 0 none b4))), (some (AV.sc (SV.int IntKind.i64 n6))), (some (AV.sc (SV.int IntKind.i64 n7)))] [(some (HE.mk true (HB.rows (B.iRtTask l2))))])  (fun n11 => KL Ex.normal [(some (AV.sc (SV.int IntKind.i64 n4))), (some (AV.sc (SV.int IntKind.i64 n11)))] [(some (HE.mk true (HB.rows (B.iRtTask l2))))]) := by kernel_rfl
theorem le_impl_Admit_r_2 (N : Nat) {R : Type} (n4 : Int) (b4 : Bool) (n6 : Int) (l2 : List RtTask) (KL : Ex → List (Option AV) → Hp E → Option R) : ∀ (f : Nat), ∀ (n5 : Int) (n7 : Int), iterK (E := E) (O_impl_Admit_r N) (fun {R} => LI (IT_impl_Admit_r_0 N) 1 42 sl_impl_Admit_r (R := R)) J_impl_Admit_r 1 42 2 [3, 6, 23, 24, 25] [3, 6] (body Try.f9 2) f [(some (AV.sc (SV.int IntKind.i64 n4))), (some (AV.sc (SV.int IntKind.i64 n5))), (some (AV.sc (SV.slc 0 none b4))), (some (AV.sc (SV.int IntKind.i64 n6))), (some (AV.sc (SV.int IntKind.i64 n7)))] [(some (HE.mk true (HB.rows (B.iRtTask l2))))] KL = l_impl_Admit_r_2 N n4 b4 n6 l2 (fun n11 => KL Ex.normal [(some (AV.sc (SV.int IntKind.i64 n4))), (some (AV.sc (SV.int IntKind.i64 n11)))] [(some (HE.mk true (HB.rows (B.iRtTask l2))))]) f n5 n7 := by
  intro f
  induction f with
  | zero => intros; rfl
  | succ f ih =>
    intro n5 n7
    rw [iterK_succ, se_impl_Admit_r_2]
    exact (congrArg (fun z0 => s_impl_Admit_r_2 N n4 b4 n6 l2 n5 n7 z0 (fun n11 => KL Ex.normal [(some (AV.sc (SV.int IntKind.i64 n4))), (some (AV.sc (SV.int IntKind.i64 n11)))] [(some (HE.mk true (HB.rows (B.iRtTask l2))))])) (funext fun n5 => funext fun n7 => ih n5 n7))
noncomputable def i_impl_Admit_r_2 (N : Nat) {R : Type} (vs : List (Option AV)) (H : Hp E) (KL : Ex → List (Option AV) → Hp E → Option R) : Option R :=
 match vs, H with
 | [(some (AV.sc (SV.int IntKind.i64 n4))), (some (AV.sc (SV.int IntKind.i64 n5))), (some (AV.sc (SV.slc 0 none b4))), (some (AV.sc (SV.int IntKind.i64 n6))), (some (AV.sc (SV.int IntKind.i64 n7)))], [(some (HE.mk true (HB.rows (B.iRtTask l2))))] => c_impl_Admit_r_2 N n4 b4 n6 l2 n5 n7 (fun n12 => KL Ex.normal [(some (AV.sc (SV.int IntKind.i64 n4))), (some (AV.sc (SV.int IntKind.i64 n12)))] [(some (HE.mk true (HB.rows (B.iRtTask l2))))])
 | _, _ => none
noncomputable def IT_impl_Admit_r_2 (N : Nat) : Its E := addIt 2 (i_impl_Admit_r_2 N) (IT_impl_Admit_r_0 N)
theorem IT_impl_Admit_r_2_ok (N : Nat) : ItOk (IT_impl_Admit_r_2 N) 1 42 sl_impl_Admit_r (lsB Try.f9 [2, 0]) :=
  addItB_ok (inner := []) ok (O_impl_Admit_r_ok N) (jn_ok _ _ _) (IT_impl_Admit_r_0_ok N) rfl (by kernel_rfl) rfl fun vs H KL r h => by
    unfold i_impl_Admit_r_2 at h
    split at h
    · exact ⟨_, (le_impl_Admit_r_2 N _ _ _ _ KL N _ _).trans h⟩
    · cases h
noncomputable def g_impl_Admit_r (N : Nat) {R : Type} (b : Bool) (l : List RtTask) (k : Bool → Option R) : Option R :=
 (g_impl_ytasksOk_r N b l fun b1 =>
 (cond (!b1)
 (k false)
 (c_impl_Admit_r_0 N b b (((List.length l) : Nat) : Int) l (1 : Int) (0 : Int) fun n3 =>
 (c_impl_Admit_r_2 N n3 b (((List.length l) : Nat) : Int) l (0 : Int) (0 : Int) fun n8 =>
 (k (decide ((n8 ≤ n3))))))))
theorem e_impl_Admit_r (N : Nat) {R : Type} (b : Bool) (l : List RtTask) (K : AV → Hp E → Option R) :
    runFnI (E := E) (O_impl_Admit_r N) (IT_impl_Admit_r_2 N) sl_impl_Admit_r J_impl_Admit_r Try.f9 [(AV.sc (SV.slc 0 none b))] [(some (HE.mk true (HB.rows (B.iRtTask l))))] K =
      g_impl_Admit_r N b l (fun b5 => K (AV.sc (SV.bool b5)) [(some (HE.mk true (HB.rows (B.iRtTask l))))]) := by kernel_rfl
noncomputable def o_impl_Admit_r (N : Nat) {R : Type} (args : List AV) (H : Hp E) (K : AV → Hp E → Option R) : Option R :=
 match args, H with
 | [(AV.sc (SV.slc 0 none b))], [(some (HE.mk true (HB.rows (B.iRtTask l))))] => g_impl_Admit_r N b l (fun b5 => K (AV.sc (SV.bool b5)) [(some (HE.mk true (HB.rows (B.iRtTask l))))])
 | _, _ => none
theorem o_impl_Admit_r_ok (N : Nat) : FnOk E 9 (o_impl_Admit_r N) := by
  intro R args H K r h
  unfold o_impl_Admit_r at h
  dsimp only at h
  split at h
  · exact fnB_ok (ids := [2, 0]) (top := [0, 2]) ok (O_impl_Admit_r_ok N) (jn_ok _ _ _) Try.func9 (by kernel_rfl) (IT := IT_impl_Admit_r_2 N) (sl := sl_impl_Admit_r) (J := J_impl_Admit_r) (K := K) (H := [(some (HE.mk true (HB.rows (B.iRtTask _))))]) (IT_impl_Admit_r_2_ok N) (by kernel_rfl) rfl ((e_impl_Admit_r N _ _ K).trans h)
  · cases h
/-! ### loop.example/g00038/spec.Admit -/
abbrev sl_spec_Admit_r : SlotT := [(0, ([0, 3, 4], [3]))]
abbrev J_spec_Admit_r : JT := jn [] [] []
noncomputable def O_spec_Admit_r (N : Nat) : Orc E := addFn 20 (o_spec_l18Tasks_r N) (noFn)
theorem O_spec_Admit_r_ok (N : Nat) : OrcOk (O_spec_Admit_r N) := addFn_ok (o_spec_l18Tasks_r_ok N) (noFn_ok)
noncomputable def s_spec_Admit_r_0 (N : Nat) {R : Type} (b2 : Bool) (l1 : List RtTask) (n : Int) (n1 : Int) (ag : Int → Int → Option R)  (kN : Int → Option R) : Option R :=
 (cond (decide ((n1 < (((List.length l1) : Nat) : Int))))
 (cond ((decide (((0 : Int) ≤ n1))) && (decide ((n1 < (((List.length l1) : Nat) : Int)))))
 (elemK l1 (Int.toNat n1) fun x =>
 (cond ((RtTask.fPeriod x) == (0 : Int))
 none
 (cond ((decide (((0 : Int) ≤ n1))) && (decide ((n1 < (((List.length l1) : Nat) : Int)))))
 (elemK l1 (Int.toNat n1) fun x1 =>
 (ag (IntKind.wrap IntKind.i64 (n + (IntKind.wrap IntKind.i64 ((IntKind.wrap IntKind.i64 (Int.tdiv (5342931457063200 : Int) (RtTask.fPeriod x))) * (RtTask.fBudget x1))))) (IntKind.wrap IntKind.i64 (n1 + (1 : Int)))))
 none)))
 none)
 (kN n))
noncomputable def l_spec_Admit_r_0 (N : Nat) {R : Type} (b2 : Bool) (l1 : List RtTask) (kN : Int → Option R) : Nat → Int → Int → Option R
 | 0, _, _ => none
 | f + 1, n, n1 => s_spec_Admit_r_0 N b2 l1 n n1 (fun n n1 => l_spec_Admit_r_0 N b2 l1 kN f n n1)  kN
noncomputable def c_spec_Admit_r_0 (N : Nat) {R : Type} (b2 : Bool) (l1 : List RtTask) (n : Int) (n1 : Int) (kN : Int → Option R) : Option R := l_spec_Admit_r_0 N b2 l1 kN N n n1
theorem se_spec_Admit_r_0 (N : Nat) {R : Type} (b2 : Bool) (l1 : List RtTask) (n : Int) (n1 : Int) (AG : List (Option AV) → Hp E → Option R) (KL : Ex → List (Option AV) → Hp E → Option R) :
    iterStep (E := E) (O_spec_Admit_r N) (fun {R} => LI (noIt) 1 30 sl_spec_Admit_r (R := R)) J_spec_Admit_r 1 30 0 [0, 3, 4] [3] (body Try.f10 0) AG KL [(some (AV.sc (SV.slc 0 none b2))), (some (AV.sc (SV.int IntKind.i64 n))), (some (AV.sc (SV.int IntKind.i64 n1)))] [(some (HE.mk true (HB.rows (B.iRtTask l1))))] =
      s_spec_Admit_r_0 N b2 l1 n n1 (fun n n1 => AG [(some (AV.sc (SV.slc 0 none b2))), (some (AV.sc (SV.int IntKind.i64 n))), (some (AV.sc (SV.int IntKind.i64 n1)))] [(some (HE.mk true (HB.rows (B.iRtTask l1))))])  (fun n3 => KL Ex.normal [(some (AV.sc (SV.int IntKind.i64 n3)))] [(some (HE.mk true (HB.rows (B.iRtTask l1))))]) := by kernel_rfl
theorem le_spec_Admit_r_0 (N : Nat) {R : Type} (b2 : Bool) (l1 : List RtTask) (KL : Ex → List (Option AV) → Hp E → Option R) : ∀ (f : Nat), ∀ (n : Int) (n1 : Int), iterK (E := E) (O_spec_Admit_r N) (fun {R} => LI (noIt) 1 30 sl_spec_Admit_r (R := R)) J_spec_Admit_r 1 30 0 [0, 3, 4] [3] (body Try.f10 0) f [(some (AV.sc (SV.slc 0 none b2))), (some (AV.sc (SV.int IntKind.i64 n))), (some (AV.sc (SV.int IntKind.i64 n1)))] [(some (HE.mk true (HB.rows (B.iRtTask l1))))] KL = l_spec_Admit_r_0 N b2 l1 (fun n3 => KL Ex.normal [(some (AV.sc (SV.int IntKind.i64 n3)))] [(some (HE.mk true (HB.rows (B.iRtTask l1))))]) f n n1 := by
  intro f
  induction f with
  | zero => intros; rfl
  | succ f ih =>
    intro n n1
    rw [iterK_succ, se_spec_Admit_r_0]
    exact (congrArg (fun z0 => s_spec_Admit_r_0 N b2 l1 n n1 z0 (fun n3 => KL Ex.normal [(some (AV.sc (SV.int IntKind.i64 n3)))] [(some (HE.mk true (HB.rows (B.iRtTask l1))))])) (funext fun n => funext fun n1 => ih n n1))
noncomputable def i_spec_Admit_r_0 (N : Nat) {R : Type} (vs : List (Option AV)) (H : Hp E) (KL : Ex → List (Option AV) → Hp E → Option R) : Option R :=
 match vs, H with
 | [(some (AV.sc (SV.slc 0 none b2))), (some (AV.sc (SV.int IntKind.i64 n))), (some (AV.sc (SV.int IntKind.i64 n1)))], [(some (HE.mk true (HB.rows (B.iRtTask l1))))] => c_spec_Admit_r_0 N b2 l1 n n1 (fun n4 => KL Ex.normal [(some (AV.sc (SV.int IntKind.i64 n4)))] [(some (HE.mk true (HB.rows (B.iRtTask l1))))])
 | _, _ => none
noncomputable def IT_spec_Admit_r_0 (N : Nat) : Its E := addIt 0 (i_spec_Admit_r_0 N) (noIt)
theorem IT_spec_Admit_r_0_ok (N : Nat) : ItOk (IT_spec_Admit_r_0 N) 1 30 sl_spec_Admit_r (lsB Try.f10 [0]) :=
  addItB_ok (inner := []) ok (O_spec_Admit_r_ok N) (jn_ok _ _ _) (noIt_ok) rfl (by kernel_rfl) rfl fun vs H KL r h => by
    unfold i_spec_Admit_r_0 at h
    split at h
    · exact ⟨_, (le_spec_Admit_r_0 N _ _ KL N _ _).trans h⟩
    · cases h
noncomputable def g_spec_Admit_r (N : Nat) {R : Type} (b : Bool) (l : List RtTask) (k : Bool → Option R) : Option R :=
 (g_spec_l18Tasks_r N b l fun b1 =>
 (cond (!b1)
 (k false)
 (c_spec_Admit_r_0 N b l (0 : Int) (0 : Int) fun n2 =>
 (k (decide ((n2 ≤ (5342931457063200 : Int))))))))
theorem e_spec_Admit_r (N : Nat) {R : Type} (b : Bool) (l : List RtTask) (K : AV → Hp E → Option R) :
    runFnI (E := E) (O_spec_Admit_r N) (IT_spec_Admit_r_0 N) sl_spec_Admit_r J_spec_Admit_r Try.f10 [(AV.sc (SV.slc 0 none b))] [(some (HE.mk true (HB.rows (B.iRtTask l))))] K =
      g_spec_Admit_r N b l (fun b3 => K (AV.sc (SV.bool b3)) [(some (HE.mk true (HB.rows (B.iRtTask l))))]) := by kernel_rfl
noncomputable def o_spec_Admit_r (N : Nat) {R : Type} (args : List AV) (H : Hp E) (K : AV → Hp E → Option R) : Option R :=
 match args, H with
 | [(AV.sc (SV.slc 0 none b))], [(some (HE.mk true (HB.rows (B.iRtTask l))))] => g_spec_Admit_r N b l (fun b3 => K (AV.sc (SV.bool b3)) [(some (HE.mk true (HB.rows (B.iRtTask l))))])
 | _, _ => none
theorem o_spec_Admit_r_ok (N : Nat) : FnOk E 10 (o_spec_Admit_r N) := by
  intro R args H K r h
  unfold o_spec_Admit_r at h
  dsimp only at h
  split at h
  · exact fnB_ok (ids := [0]) (top := [0]) ok (O_spec_Admit_r_ok N) (jn_ok _ _ _) Try.func10 (by kernel_rfl) (IT := IT_spec_Admit_r_0 N) (sl := sl_spec_Admit_r) (J := J_spec_Admit_r) (K := K) (H := [(some (HE.mk true (HB.rows (B.iRtTask _))))]) (IT_spec_Admit_r_0_ok N) (by kernel_rfl) rfl ((e_spec_Admit_r N _ _ K).trans h)
  · cases h
end Go.Sa
