import Derived.Test.YtaffhdhamfilpaaSpec
import Derived.Test.YtaffhdhamfilpaaPLb
import Derived.Test.YtaffhdhamfilpaaW6
set_option linter.all false
namespace Go.Sa
open Go Go.Eng Go.Proofs
set_option maxRecDepth 100000
set_option maxHeartbeats 4000000
/-! ### loop.example/g00038/laws.eqInt64S -/
abbrev sl_laws_eqInt64S_rr : SlotT := [(0, ([0, 1, 5], [4]))]
abbrev J_laws_eqInt64S_rr : JT := jn [] [] []
noncomputable def O_laws_eqInt64S_rr (N : Nat) : Orc E := noFn
theorem O_laws_eqInt64S_rr_ok (N : Nat) : OrcOk (O_laws_eqInt64S_rr N) := noFn_ok
noncomputable def s_laws_eqInt64S_rr_0 (N : Nat) {R : Type} (b2 : Bool) (b3 : Bool) (l2 : List Int) (l3 : List Int) (n : Int) (ag : Int → Option R)  (kR : Option R) (kN : Option R) : Option R :=
  (cond (decide ((n < (((List.length l2) : Nat) : Int))))
  (cond ((decide (((0 : Int) ≤ n))) && (decide ((n < (((List.length l2) : Nat) : Int)))))
    (elemK l2 (Int.toNat n) fun x =>
      (cond ((decide (((0 : Int) ≤ n))) && (decide ((n < (((List.length l3) : Nat) : Int)))))
      (elemK l3 (Int.toNat n) fun x1 =>
        (cond (x != x1)
        kR
        (ag (IntKind.wrap IntKind.i64 (n + (1 : Int))))))
      none))
    none)
  kN)
noncomputable def l_laws_eqInt64S_rr_0 (N : Nat) {R : Type} (b2 : Bool) (b3 : Bool) (l2 : List Int) (l3 : List Int) (kR : Option R) (kN : Option R) : Nat → Int → Option R
  | 0, _ => none
  | f + 1, n => s_laws_eqInt64S_rr_0 N b2 b3 l2 l3 n (fun n => l_laws_eqInt64S_rr_0 N b2 b3 l2 l3 kR kN f n)  kR kN
noncomputable def c_laws_eqInt64S_rr_0 (N : Nat) {R : Type} (b2 : Bool) (b3 : Bool) (l2 : List Int) (l3 : List Int) (n : Int) (kR : Option R) (kN : Option R) : Option R := l_laws_eqInt64S_rr_0 N b2 b3 l2 l3 kR kN N n
theorem se_laws_eqInt64S_rr_0 (N : Nat) {R : Type} (b2 : Bool) (b3 : Bool) (l2 : List Int) (l3 : List Int) (n : Int) (AG : List (Option AV) → Hp E → Option R) (KL : Ex → List (Option AV) → Hp E → Option R) :
    iterStep (E := E) (O_laws_eqInt64S_rr N) (fun {R} => LI (noIt) 2 26 sl_laws_eqInt64S_rr (R := R)) J_laws_eqInt64S_rr 2 26 0 [0, 1, 5] [4] (body Go.Proofs.Try.f45 0) AG KL [(some (AV.sc (SV.slc 0 none b2))), (some (AV.sc (SV.slc 1 none b3))), (some (AV.sc (SV.int IntKind.i64 n)))] [(some (HE.mk true (HB.rows (B.i64 l2)))), (some (HE.mk true (HB.rows (B.i64 l3))))] =
      s_laws_eqInt64S_rr_0 N b2 b3 l2 l3 n (fun n => AG [(some (AV.sc (SV.slc 0 none b2))), (some (AV.sc (SV.slc 1 none b3))), (some (AV.sc (SV.int IntKind.i64 n)))] [(some (HE.mk true (HB.rows (B.i64 l2)))), (some (HE.mk true (HB.rows (B.i64 l3))))])  (KL Ex.ret [(some (AV.sc (SV.bool false)))] [(some (HE.mk true (HB.rows (B.i64 l2)))), (some (HE.mk true (HB.rows (B.i64 l3))))]) (KL Ex.normal [none] [(some (HE.mk true (HB.rows (B.i64 l2)))), (some (HE.mk true (HB.rows (B.i64 l3))))]) := by kernel_rfl
theorem le_laws_eqInt64S_rr_0 (N : Nat) {R : Type} (b2 : Bool) (b3 : Bool) (l2 : List Int) (l3 : List Int) (KL : Ex → List (Option AV) → Hp E → Option R) : ∀ (f : Nat), ∀ (n : Int), iterK (E := E) (O_laws_eqInt64S_rr N) (fun {R} => LI (noIt) 2 26 sl_laws_eqInt64S_rr (R := R)) J_laws_eqInt64S_rr 2 26 0 [0, 1, 5] [4] (body Go.Proofs.Try.f45 0) f [(some (AV.sc (SV.slc 0 none b2))), (some (AV.sc (SV.slc 1 none b3))), (some (AV.sc (SV.int IntKind.i64 n)))] [(some (HE.mk true (HB.rows (B.i64 l2)))), (some (HE.mk true (HB.rows (B.i64 l3))))] KL = l_laws_eqInt64S_rr_0 N b2 b3 l2 l3 (KL Ex.ret [(some (AV.sc (SV.bool false)))] [(some (HE.mk true (HB.rows (B.i64 l2)))), (some (HE.mk true (HB.rows (B.i64 l3))))]) (KL Ex.normal [none] [(some (HE.mk true (HB.rows (B.i64 l2)))), (some (HE.mk true (HB.rows (B.i64 l3))))]) f n := by
  intro f
  induction f with
  | zero => intros; rfl
  | succ f ih =>
    intro n
    rw [iterK_succ, se_laws_eqInt64S_rr_0]
    exact (congrArg (fun z0 => s_laws_eqInt64S_rr_0 N b2 b3 l2 l3 n z0 (KL Ex.ret [(some (AV.sc (SV.bool false)))] [(some (HE.mk true (HB.rows (B.i64 l2)))), (some (HE.mk true (HB.rows (B.i64 l3))))]) (KL Ex.normal [none] [(some (HE.mk true (HB.rows (B.i64 l2)))), (some (HE.mk true (HB.rows (B.i64 l3))))])) (funext fun n => ih n))
noncomputable def i_laws_eqInt64S_rr_0 (N : Nat) {R : Type} (vs : List (Option AV)) (H : Hp E) (KL : Ex → List (Option AV) → Hp E → Option R) : Option R :=
  match vs, H with
  | [(some (AV.sc (SV.slc 0 none b2))), (some (AV.sc (SV.slc 1 none b3))), (some (AV.sc (SV.int IntKind.i64 n)))], [(some (HE.mk true (HB.rows (B.i64 l2)))), (some (HE.mk true (HB.rows (B.i64 l3))))] => c_laws_eqInt64S_rr_0 N b2 b3 l2 l3 n (KL Ex.ret [(some (AV.sc (SV.bool false)))] [(some (HE.mk true (HB.rows (B.i64 l2)))), (some (HE.mk true (HB.rows (B.i64 l3))))]) (KL Ex.normal [none] [(some (HE.mk true (HB.rows (B.i64 l2)))), (some (HE.mk true (HB.rows (B.i64 l3))))])
  | _, _ => none
noncomputable def IT_laws_eqInt64S_rr_0 (N : Nat) : Its E := addIt 0 (i_laws_eqInt64S_rr_0 N) (noIt)
theorem IT_laws_eqInt64S_rr_0_ok (N : Nat) : ItOk (IT_laws_eqInt64S_rr_0 N) 2 26 sl_laws_eqInt64S_rr (lsB Go.Proofs.Try.f45 [0]) :=
  addItB_ok (inner := []) ok (O_laws_eqInt64S_rr_ok N) (jn_ok _ _ _) (noIt_ok) rfl (by kernel_rfl) rfl fun vs H KL r h => by
    unfold i_laws_eqInt64S_rr_0 at h
    split at h
    · exact ⟨_, (le_laws_eqInt64S_rr_0 N _ _ _ _ KL N _).trans h⟩
    · cases h
noncomputable def g_laws_eqInt64S_rr (N : Nat) {R : Type} (b : Bool) (b1 : Bool) (l : List Int) (l1 : List Int) (k : Bool → Option R) : Option R :=
  (cond ((((List.length l) : Nat) : Int) != (((List.length l1) : Nat) : Int))
  (k false)
  (c_laws_eqInt64S_rr_0 N b b1 l l1 (0 : Int) (
    (k false)) (
    (k true))))
theorem e_laws_eqInt64S_rr (N : Nat) {R : Type} (b : Bool) (b1 : Bool) (l : List Int) (l1 : List Int) (K : AV → Hp E → Option R) :
    runFnI (E := E) (O_laws_eqInt64S_rr N) (IT_laws_eqInt64S_rr_0 N) sl_laws_eqInt64S_rr J_laws_eqInt64S_rr Go.Proofs.Try.f45 [(AV.sc (SV.slc 0 none b)), (AV.sc (SV.slc 1 none b1))] [(some (HE.mk true (HB.rows (B.i64 l)))), (some (HE.mk true (HB.rows (B.i64 l1))))] K =
      g_laws_eqInt64S_rr N b b1 l l1 (fun b4 => K (AV.sc (SV.bool b4)) [(some (HE.mk true (HB.rows (B.i64 l)))), (some (HE.mk true (HB.rows (B.i64 l1))))]) := by kernel_rfl
noncomputable def o_laws_eqInt64S_rr (N : Nat) {R : Type} (args : List AV) (H : Hp E) (K : AV → Hp E → Option R) : Option R :=
  match args, H with
  | [(AV.sc (SV.slc 0 none b)), (AV.sc (SV.slc 1 none b1))], [(some (HE.mk true (HB.rows (B.i64 l)))), (some (HE.mk true (HB.rows (B.i64 l1))))] => g_laws_eqInt64S_rr N b b1 l l1 (fun b4 => K (AV.sc (SV.bool b4)) [(some (HE.mk true (HB.rows (B.i64 l)))), (some (HE.mk true (HB.rows (B.i64 l1))))])
  | _, _ => none
theorem o_laws_eqInt64S_rr_ok (N : Nat) : FnOk E 45 (o_laws_eqInt64S_rr N) := by
  intro R args H K r h
  unfold o_laws_eqInt64S_rr at h
  dsimp only at h
  split at h
  · exact fnB_ok (ids := [0]) (top := [0]) ok (O_laws_eqInt64S_rr_ok N) (jn_ok _ _ _) Go.Proofs.Try.func45 (by kernel_rfl) (IT := IT_laws_eqInt64S_rr_0 N) (sl := sl_laws_eqInt64S_rr) (J := J_laws_eqInt64S_rr) (K := K) (H := [(some (HE.mk true (HB.rows (B.i64 _)))), (some (HE.mk true (HB.rows (B.i64 _))))]) (IT_laws_eqInt64S_rr_0_ok N) (by kernel_rfl) rfl ((e_laws_eqInt64S_rr N _ _ _ _ K).trans h)
  · cases h
/-! ### loop.example/g00038/laws.eqPortValue -/
abbrev sl_laws_eqPortValue : SlotT := []
abbrev J_laws_eqPortValue : JT := jn [] [] []
noncomputable def O_laws_eqPortValue (N : Nat) : Orc E := noFn
theorem O_laws_eqPortValue_ok (N : Nat) : OrcOk (O_laws_eqPortValue N) := noFn_ok
noncomputable def g_laws_eqPortValue (N : Nat) {R : Type} (n : Int) (n1 : Int) (n2 : Int) (n3 : Int) (k : Bool → Option R) : Option R :=
  (cond (n != n2)
  (k false)
  (cond (n1 != n3)
    (k false)
    (k true)))
theorem e_laws_eqPortValue (N : Nat) {R : Type} (n : Int) (n1 : Int) (n2 : Int) (n3 : Int) (K : AV → Hp E → Option R) :
    runFnI (E := E) (O_laws_eqPortValue N) (noIt) sl_laws_eqPortValue J_laws_eqPortValue Go.Proofs.Try.f82 [(AV.agg [(SV.int IntKind.i64 n), (SV.int IntKind.i64 n1)]), (AV.agg [(SV.int IntKind.i64 n2), (SV.int IntKind.i64 n3)])] [] K =
      g_laws_eqPortValue N n n1 n2 n3 (fun b => K (AV.sc (SV.bool b)) []) := by kernel_rfl
noncomputable def o_laws_eqPortValue (N : Nat) {R : Type} (args : List AV) (H : Hp E) (K : AV → Hp E → Option R) : Option R :=
  match args, H with
  | [(AV.agg [(SV.int IntKind.i64 n), (SV.int IntKind.i64 n1)]), (AV.agg [(SV.int IntKind.i64 n2), (SV.int IntKind.i64 n3)])], [] => g_laws_eqPortValue N n n1 n2 n3 (fun b => K (AV.sc (SV.bool b)) [])
  | _, _ => none
theorem o_laws_eqPortValue_ok (N : Nat) : FnOk E 82 (o_laws_eqPortValue N) := by
  intro R args H K r h
  unfold o_laws_eqPortValue at h
  dsimp only at h
  split at h
  · exact fnB_ok (ids := []) (top := []) ok (O_laws_eqPortValue_ok N) (jn_ok _ _ _) Go.Proofs.Try.func82 (by kernel_rfl) (IT := noIt) (sl := sl_laws_eqPortValue) (J := J_laws_eqPortValue) (K := K) (H := []) (noIt_ok) (by kernel_rfl) rfl ((e_laws_eqPortValue N _ _ _ _ K).trans h)
  · cases h
/-! ### loop.example/g00038/laws.eqPortValueS -/
abbrev sl_laws_eqPortValueS_rr : SlotT := [(0, ([0, 1, 5], [4]))]
abbrev J_laws_eqPortValueS_rr : JT := jn [] [] []
noncomputable def O_laws_eqPortValueS_rr (N : Nat) : Orc E := addFn 82 (o_laws_eqPortValue N) (noFn)
theorem O_laws_eqPortValueS_rr_ok (N : Nat) : OrcOk (O_laws_eqPortValueS_rr N) := addFn_ok (o_laws_eqPortValue_ok N) (noFn_ok)
noncomputable def s_laws_eqPortValueS_rr_0 (N : Nat) {R : Type} (b2 : Bool) (b3 : Bool) (l2 : List PortValue) (l3 : List PortValue) (n : Int) (ag : Int → Option R)  (kR : Option R) (kN : Option R) : Option R :=
  (cond (decide ((n < (((List.length l2) : Nat) : Int))))
  (cond ((decide (((0 : Int) ≤ n))) && (decide ((n < (((List.length l2) : Nat) : Int)))))
    (elemK l2 (Int.toNat n) fun x =>
      (cond ((decide (((0 : Int) ≤ n))) && (decide ((n < (((List.length l3) : Nat) : Int)))))
      (elemK l3 (Int.toNat n) fun x1 =>
        (g_laws_eqPortValue N (PortValue.fPort x) (PortValue.fValue x) (PortValue.fPort x1) (PortValue.fValue x1) fun b4 =>
        (cond (!b4)
        kR
        (ag (IntKind.wrap IntKind.i64 (n + (1 : Int)))))))
      none))
    none)
  kN)
noncomputable def l_laws_eqPortValueS_rr_0 (N : Nat) {R : Type} (b2 : Bool) (b3 : Bool) (l2 : List PortValue) (l3 : List PortValue) (kR : Option R) (kN : Option R) : Nat → Int → Option R
  | 0, _ => none
  | f + 1, n => s_laws_eqPortValueS_rr_0 N b2 b3 l2 l3 n (fun n => l_laws_eqPortValueS_rr_0 N b2 b3 l2 l3 kR kN f n)  kR kN
noncomputable def c_laws_eqPortValueS_rr_0 (N : Nat) {R : Type} (b2 : Bool) (b3 : Bool) (l2 : List PortValue) (l3 : List PortValue) (n : Int) (kR : Option R) (kN : Option R) : Option R := l_laws_eqPortValueS_rr_0 N b2 b3 l2 l3 kR kN N n
theorem se_laws_eqPortValueS_rr_0 (N : Nat) {R : Type} (b2 : Bool) (b3 : Bool) (l2 : List PortValue) (l3 : List PortValue) (n : Int) (AG : List (Option AV) → Hp E → Option R) (KL : Ex → List (Option AV) → Hp E → Option R) :
    iterStep (E := E) (O_laws_eqPortValueS_rr N) (fun {R} => LI (noIt) 2 27 sl_laws_eqPortValueS_rr (R := R)) J_laws_eqPortValueS_rr 2 27 0 [0, 1, 5] [4] (body Go.Proofs.Try.f46 0) AG KL [(some (AV.sc (SV.slc 0 none b2))), (some (AV.sc (SV.slc 1 none b3))), (some (AV.sc (SV.int IntKind.i64 n)))] [(some (HE.mk true (HB.rows (B.iPortValue l2)))), (some (HE.mk true (HB.rows (B.iPortValue l3))))] =
      s_laws_eqPortValueS_rr_0 N b2 b3 l2 l3 n (fun n => AG [(some (AV.sc (SV.slc 0 none b2))), (some (AV.sc (SV.slc 1 none b3))), (some (AV.sc (SV.int IntKind.i64 n)))] [(some (HE.mk true (HB.rows (B.iPortValue l2)))), (some (HE.mk true (HB.rows (B.iPortValue l3))))])  (KL Ex.ret [(some (AV.sc (SV.bool false)))] [(some (HE.mk true (HB.rows (B.iPortValue l2)))), (some (HE.mk true (HB.rows (B.iPortValue l3))))]) (KL Ex.normal [none] [(some (HE.mk true (HB.rows (B.iPortValue l2)))), (some (HE.mk true (HB.rows (B.iPortValue l3))))]) := by kernel_rfl
theorem le_laws_eqPortValueS_rr_0 (N : Nat) {R : Type} (b2 : Bool) (b3 : Bool) (l2 : List PortValue) (l3 : List PortValue) (KL : Ex → List (Option AV) → Hp E → Option R) : ∀ (f : Nat), ∀ (n : Int), iterK (E := E) (O_laws_eqPortValueS_rr N) (fun {R} => LI (noIt) 2 27 sl_laws_eqPortValueS_rr (R := R)) J_laws_eqPortValueS_rr 2 27 0 [0, 1, 5] [4] (body Go.Proofs.Try.f46 0) f [(some (AV.sc (SV.slc 0 none b2))), (some (AV.sc (SV.slc 1 none b3))), (some (AV.sc (SV.int IntKind.i64 n)))] [(some (HE.mk true (HB.rows (B.iPortValue l2)))), (some (HE.mk true (HB.rows (B.iPortValue l3))))] KL = l_laws_eqPortValueS_rr_0 N b2 b3 l2 l3 (KL Ex.ret [(some (AV.sc (SV.bool false)))] [(some (HE.mk true (HB.rows (B.iPortValue l2)))), (some (HE.mk true (HB.rows (B.iPortValue l3))))]) (KL Ex.normal [none] [(some (HE.mk true (HB.rows (B.iPortValue l2)))), (some (HE.mk true (HB.rows (B.iPortValue l3))))]) f n := by
  intro f
  induction f with
  | zero => intros; rfl
  | succ f ih =>
    intro n
    rw [iterK_succ, se_laws_eqPortValueS_rr_0]
    exact (congrArg (fun z0 => s_laws_eqPortValueS_rr_0 N b2 b3 l2 l3 n z0 (KL Ex.ret [(some (AV.sc (SV.bool false)))] [(some (HE.mk true (HB.rows (B.iPortValue l2)))), (some (HE.mk true (HB.rows (B.iPortValue l3))))]) (KL Ex.normal [none] [(some (HE.mk true (HB.rows (B.iPortValue l2)))), (some (HE.mk true (HB.rows (B.iPortValue l3))))])) (funext fun n => ih n))
noncomputable def i_laws_eqPortValueS_rr_0 (N : Nat) {R : Type} (vs : List (Option AV)) (H : Hp E) (KL : Ex → List (Option AV) → Hp E → Option R) : Option R :=
  match vs, H with
  | [(some (AV.sc (SV.slc 0 none b2))), (some (AV.sc (SV.slc 1 none b3))), (some (AV.sc (SV.int IntKind.i64 n)))], [(some (HE.mk true (HB.rows (B.iPortValue l2)))), (some (HE.mk true (HB.rows (B.iPortValue l3))))] => c_laws_eqPortValueS_rr_0 N b2 b3 l2 l3 n (KL Ex.ret [(some (AV.sc (SV.bool false)))] [(some (HE.mk true (HB.rows (B.iPortValue l2)))), (some (HE.mk true (HB.rows (B.iPortValue l3))))]) (KL Ex.normal [none] [(some (HE.mk true (HB.rows (B.iPortValue l2)))), (some (HE.mk true (HB.rows (B.iPortValue l3))))])
  | _, _ => none
noncomputable def IT_laws_eqPortValueS_rr_0 (N : Nat) : Its E := addIt 0 (i_laws_eqPortValueS_rr_0 N) (noIt)
theorem IT_laws_eqPortValueS_rr_0_ok (N : Nat) : ItOk (IT_laws_eqPortValueS_rr_0 N) 2 27 sl_laws_eqPortValueS_rr (lsB Go.Proofs.Try.f46 [0]) :=
  addItB_ok (inner := []) ok (O_laws_eqPortValueS_rr_ok N) (jn_ok _ _ _) (noIt_ok) rfl (by kernel_rfl) rfl fun vs H KL r h => by
    unfold i_laws_eqPortValueS_rr_0 at h
    split at h
    · exact ⟨_, (le_laws_eqPortValueS_rr_0 N _ _ _ _ KL N _).trans h⟩
    · cases h
noncomputable def g_laws_eqPortValueS_rr (N : Nat) {R : Type} (b : Bool) (b1 : Bool) (l : List PortValue) (l1 : List PortValue) (k : Bool → Option R) : Option R :=
  (cond ((((List.length l) : Nat) : Int) != (((List.length l1) : Nat) : Int))
  (k false)
  (c_laws_eqPortValueS_rr_0 N b b1 l l1 (0 : Int) (
    (k false)) (
    (k true))))
theorem e_laws_eqPortValueS_rr (N : Nat) {R : Type} (b : Bool) (b1 : Bool) (l : List PortValue) (l1 : List PortValue) (K : AV → Hp E → Option R) :
    runFnI (E := E) (O_laws_eqPortValueS_rr N) (IT_laws_eqPortValueS_rr_0 N) sl_laws_eqPortValueS_rr J_laws_eqPortValueS_rr Go.Proofs.Try.f46 [(AV.sc (SV.slc 0 none b)), (AV.sc (SV.slc 1 none b1))] [(some (HE.mk true (HB.rows (B.iPortValue l)))), (some (HE.mk true (HB.rows (B.iPortValue l1))))] K =
      g_laws_eqPortValueS_rr N b b1 l l1 (fun b5 => K (AV.sc (SV.bool b5)) [(some (HE.mk true (HB.rows (B.iPortValue l)))), (some (HE.mk true (HB.rows (B.iPortValue l1))))]) := by kernel_rfl
noncomputable def o_laws_eqPortValueS_rr (N : Nat) {R : Type} (args : List AV) (H : Hp E) (K : AV → Hp E → Option R) : Option R :=
  match args, H with
  | [(AV.sc (SV.slc 0 none b)), (AV.sc (SV.slc 1 none b1))], [(some (HE.mk true (HB.rows (B.iPortValue l)))), (some (HE.mk true (HB.rows (B.iPortValue l1))))] => g_laws_eqPortValueS_rr N b b1 l l1 (fun b5 => K (AV.sc (SV.bool b5)) [(some (HE.mk true (HB.rows (B.iPortValue l)))), (some (HE.mk true (HB.rows (B.iPortValue l1))))])
  | _, _ => none
theorem o_laws_eqPortValueS_rr_ok (N : Nat) : FnOk E 46 (o_laws_eqPortValueS_rr N) := by
  intro R args H K r h
  unfold o_laws_eqPortValueS_rr at h
  dsimp only at h
  split at h
  · exact fnB_ok (ids := [0]) (top := [0]) ok (O_laws_eqPortValueS_rr_ok N) (jn_ok _ _ _) Go.Proofs.Try.func46 (by kernel_rfl) (IT := IT_laws_eqPortValueS_rr_0 N) (sl := sl_laws_eqPortValueS_rr) (J := J_laws_eqPortValueS_rr) (K := K) (H := [(some (HE.mk true (HB.rows (B.iPortValue _)))), (some (HE.mk true (HB.rows (B.iPortValue _))))]) (IT_laws_eqPortValueS_rr_0_ok N) (by kernel_rfl) rfl ((e_laws_eqPortValueS_rr N _ _ _ _ K).trans h)
  · cases h
/-! ### loop.example/g00038/laws.eqMachine -/
abbrev sl_laws_eqMachine_rrrrrrrrrr : SlotT := []
abbrev J_laws_eqMachine_rrrrrrrrrr : JT := jn [] [] []
noncomputable def O_laws_eqMachine_rrrrrrrrrr (N : Nat) : Orc E := addFn 46 (o_laws_eqPortValueS_rr N) (addFn 45 (o_laws_eqInt64S_rr N) (noFn))
noncomputable def pa_laws_eqMachine_rrrrrrrrrr__o_laws_eqPortValueS_rr (N : Nat) (G_laws_eqPortValueS_rr : ∀ {R : Type} (b : Bool) (b1 : Bool) (l : List PortValue) (l1 : List PortValue) (k : Bool → Option R), Option R) {R : Type} (args : List AV) (H : Hp E) (K : AV → Hp E → Option R) : Option R :=
  match args, H with
  | [(AV.sc (SV.slc 0 none b)), (AV.sc (SV.slc 1 none b1))], [(some (HE.mk true (HB.rows (B.iPortValue l)))), (some (HE.mk true (HB.rows (B.iPortValue l1))))] => G_laws_eqPortValueS_rr b b1 l l1 (fun b5 => K (AV.sc (SV.bool b5)) [(some (HE.mk true (HB.rows (B.iPortValue l)))), (some (HE.mk true (HB.rows (B.iPortValue l1))))])
  | _, _ => none
noncomputable def pa_laws_eqMachine_rrrrrrrrrr__o_laws_eqInt64S_rr (N : Nat) (G_laws_eqInt64S_rr : ∀ {R : Type} (b : Bool) (b1 : Bool) (l : List Int) (l1 : List Int) (k : Bool → Option R), Option R) {R : Type} (args : List AV) (H : Hp E) (K : AV → Hp E → Option R) : Option R :=
  match args, H with
  | [(AV.sc (SV.slc 0 none b)), (AV.sc (SV.slc 1 none b1))], [(some (HE.mk true (HB.rows (B.i64 l)))), (some (HE.mk true (HB.rows (B.i64 l1))))] => G_laws_eqInt64S_rr b b1 l l1 (fun b4 => K (AV.sc (SV.bool b4)) [(some (HE.mk true (HB.rows (B.i64 l)))), (some (HE.mk true (HB.rows (B.i64 l1))))])
  | _, _ => none
noncomputable def OA_laws_eqMachine_rrrrrrrrrr (N : Nat) (G_laws_eqPortValueS_rr : ∀ {R : Type} (b : Bool) (b1 : Bool) (l : List PortValue) (l1 : List PortValue) (k : Bool → Option R), Option R) (G_laws_eqInt64S_rr : ∀ {R : Type} (b : Bool) (b1 : Bool) (l : List Int) (l1 : List Int) (k : Bool → Option R), Option R) : Orc E := addFn 46 (pa_laws_eqMachine_rrrrrrrrrr__o_laws_eqPortValueS_rr N G_laws_eqPortValueS_rr) (addFn 45 (pa_laws_eqMachine_rrrrrrrrrr__o_laws_eqInt64S_rr N G_laws_eqInt64S_rr) (noFn))
theorem O_laws_eqMachine_rrrrrrrrrr_ok (N : Nat) : OrcOk (O_laws_eqMachine_rrrrrrrrrr N) := addFn_ok (o_laws_eqPortValueS_rr_ok N) (addFn_ok (o_laws_eqInt64S_rr_ok N) (noFn_ok))
noncomputable def g_laws_eqMachine_rrrrrrrrrr (N : Nat) {R : Type} (n : Int) (b : Bool) (n1 : Int) (b1 : Bool) (b2 : Bool) (s : ByteArray) (n2 : Int) (n3 : Int) (n4 : Int) (b3 : Bool) (b4 : Bool) (n5 : Int) (n6 : Int) (b5 : Bool) (n7 : Int) (b6 : Bool) (b7 : Bool) (s1 : ByteArray) (n8 : Int) (n9 : Int) (n10 : Int) (b8 : Bool) (b9 : Bool) (n11 : Int) (l : List Int) (l1 : List Int) (l2 : List Int) (l3 : List PortValue) (l4 : List PortValue) (l5 : List Int) (l6 : List Int) (l7 : List Int) (l8 : List PortValue) (l9 : List PortValue) (k : Bool → Option R) : Option R :=
  (cond (n != n6)
  (k false)
  (g_laws_eqInt64S_rr N b b5 l l5 fun b10 =>
    (cond (!b10)
    (k false)
    (cond (n1 != n7)
      (k false)
      (g_laws_eqInt64S_rr N b1 b6 l1 l6 fun b11 =>
        (cond (!b11)
        (k false)
        (g_laws_eqInt64S_rr N b2 b7 l2 l7 fun b12 =>
          (cond (!b12)
          (k false)
          (cond (!(decide ((s = s1))))
            (k false)
            (cond (n2 != n8)
              (k false)
              (cond (n3 != n9)
                (k false)
                (cond (n4 != n10)
                  (k false)
                  (g_laws_eqPortValueS_rr N b3 b8 l3 l8 fun b13 =>
                    (cond (!b13)
                    (k false)
                    (g_laws_eqPortValueS_rr N b4 b9 l4 l9 fun b14 =>
                      (cond (!b14)
                      (k false)
                      (cond (n5 != n11)
                        (k false)
                        (k true))))))))))))))))))
noncomputable def ga_g_laws_eqMachine_rrrrrrrrrr (N : Nat) (G_laws_eqPortValueS_rr : ∀ {R : Type} (b : Bool) (b1 : Bool) (l : List PortValue) (l1 : List PortValue) (k : Bool → Option R), Option R) (G_laws_eqInt64S_rr : ∀ {R : Type} (b : Bool) (b1 : Bool) (l : List Int) (l1 : List Int) (k : Bool → Option R), Option R) {R : Type} (n : Int) (b : Bool) (n1 : Int) (b1 : Bool) (b2 : Bool) (s : ByteArray) (n2 : Int) (n3 : Int) (n4 : Int) (b3 : Bool) (b4 : Bool) (n5 : Int) (n6 : Int) (b5 : Bool) (n7 : Int) (b6 : Bool) (b7 : Bool) (s1 : ByteArray) (n8 : Int) (n9 : Int) (n10 : Int) (b8 : Bool) (b9 : Bool) (n11 : Int) (l : List Int) (l1 : List Int) (l2 : List Int) (l3 : List PortValue) (l4 : List PortValue) (l5 : List Int) (l6 : List Int) (l7 : List Int) (l8 : List PortValue) (l9 : List PortValue) (k : Bool → Option R) : Option R :=
  (cond (n != n6)
  (k false)
  (G_laws_eqInt64S_rr b b5 l l5 fun b10 =>
    (cond (!b10)
    (k false)
    (cond (n1 != n7)
      (k false)
      (G_laws_eqInt64S_rr b1 b6 l1 l6 fun b11 =>
        (cond (!b11)
        (k false)
        (G_laws_eqInt64S_rr b2 b7 l2 l7 fun b12 =>
          (cond (!b12)
          (k false)
          (cond (!(decide ((s = s1))))
            (k false)
            (cond (n2 != n8)
              (k false)
              (cond (n3 != n9)
                (k false)
                (cond (n4 != n10)
                  (k false)
                  (G_laws_eqPortValueS_rr b3 b8 l3 l8 fun b13 =>
                    (cond (!b13)
                    (k false)
                    (G_laws_eqPortValueS_rr b4 b9 l4 l9 fun b14 =>
                      (cond (!b14)
                      (k false)
                      (cond (n5 != n11)
                        (k false)
                        (k true))))))))))))))))))
theorem ea_e_laws_eqMachine_rrrrrrrrrr (N : Nat) (G_laws_eqPortValueS_rr : ∀ {R : Type} (b : Bool) (b1 : Bool) (l : List PortValue) (l1 : List PortValue) (k : Bool → Option R), Option R) (G_laws_eqInt64S_rr : ∀ {R : Type} (b : Bool) (b1 : Bool) (l : List Int) (l1 : List Int) (k : Bool → Option R), Option R) {R : Type} (n : Int) (b : Bool) (n1 : Int) (b1 : Bool) (b2 : Bool) (s : ByteArray) (n2 : Int) (n3 : Int) (n4 : Int) (b3 : Bool) (b4 : Bool) (n5 : Int) (n6 : Int) (b5 : Bool) (n7 : Int) (b6 : Bool) (b7 : Bool) (s1 : ByteArray) (n8 : Int) (n9 : Int) (n10 : Int) (b8 : Bool) (b9 : Bool) (n11 : Int) (l : List Int) (l1 : List Int) (l2 : List Int) (l3 : List PortValue) (l4 : List PortValue) (l5 : List Int) (l6 : List Int) (l7 : List Int) (l8 : List PortValue) (l9 : List PortValue) (K : AV → Hp E → Option R) :
    runFnI (E := E) (OA_laws_eqMachine_rrrrrrrrrr N G_laws_eqPortValueS_rr G_laws_eqInt64S_rr) (noIt) sl_laws_eqMachine_rrrrrrrrrr J_laws_eqMachine_rrrrrrrrrr Go.Proofs.Try.f10 [(AV.agg [(SV.int IntKind.i64 n), (SV.slc 0 none b), (SV.int IntKind.i64 n1), (SV.slc 1 none b1), (SV.slc 2 none b2), (SV.str s), (SV.int IntKind.i64 n2), (SV.int IntKind.i64 n3), (SV.int IntKind.i64 n4), (SV.slc 3 none b3), (SV.slc 4 none b4), (SV.int IntKind.i64 n5)]), (AV.agg [(SV.int IntKind.i64 n6), (SV.slc 5 none b5), (SV.int IntKind.i64 n7), (SV.slc 6 none b6), (SV.slc 7 none b7), (SV.str s1), (SV.int IntKind.i64 n8), (SV.int IntKind.i64 n9), (SV.int IntKind.i64 n10), (SV.slc 8 none b8), (SV.slc 9 none b9), (SV.int IntKind.i64 n11)])] [(some (HE.mk true (HB.rows (B.i64 l)))), (some (HE.mk true (HB.rows (B.i64 l1)))), (some (HE.mk true (HB.rows (B.i64 l2)))), (some (HE.mk true (HB.rows (B.iPortValue l3)))), (some (HE.mk true (HB.rows (B.iPortValue l4)))), (some (HE.mk true (HB.rows (B.i64 l5)))), (some (HE.mk true (HB.rows (B.i64 l6)))), (some (HE.mk true (HB.rows (B.i64 l7)))), (some (HE.mk true (HB.rows (B.iPortValue l8)))), (some (HE.mk true (HB.rows (B.iPortValue l9))))] K =
      ga_g_laws_eqMachine_rrrrrrrrrr N G_laws_eqPortValueS_rr G_laws_eqInt64S_rr n b n1 b1 b2 s n2 n3 n4 b3 b4 n5 n6 b5 n7 b6 b7 s1 n8 n9 n10 b8 b9 n11 l l1 l2 l3 l4 l5 l6 l7 l8 l9 (fun b15 => K (AV.sc (SV.bool b15)) [(some (HE.mk true (HB.rows (B.i64 l)))), (some (HE.mk true (HB.rows (B.i64 l1)))), (some (HE.mk true (HB.rows (B.i64 l2)))), (some (HE.mk true (HB.rows (B.iPortValue l3)))), (some (HE.mk true (HB.rows (B.iPortValue l4)))), (some (HE.mk true (HB.rows (B.i64 l5)))), (some (HE.mk true (HB.rows (B.i64 l6)))), (some (HE.mk true (HB.rows (B.i64 l7)))), (some (HE.mk true (HB.rows (B.iPortValue l8)))), (some (HE.mk true (HB.rows (B.iPortValue l9))))]) := by kernel_rfl
theorem e_laws_eqMachine_rrrrrrrrrr (N : Nat) {R : Type} (n : Int) (b : Bool) (n1 : Int) (b1 : Bool) (b2 : Bool) (s : ByteArray) (n2 : Int) (n3 : Int) (n4 : Int) (b3 : Bool) (b4 : Bool) (n5 : Int) (n6 : Int) (b5 : Bool) (n7 : Int) (b6 : Bool) (b7 : Bool) (s1 : ByteArray) (n8 : Int) (n9 : Int) (n10 : Int) (b8 : Bool) (b9 : Bool) (n11 : Int) (l : List Int) (l1 : List Int) (l2 : List Int) (l3 : List PortValue) (l4 : List PortValue) (l5 : List Int) (l6 : List Int) (l7 : List Int) (l8 : List PortValue) (l9 : List PortValue) (K : AV → Hp E → Option R) :
    runFnI (E := E) (O_laws_eqMachine_rrrrrrrrrr N) (noIt) sl_laws_eqMachine_rrrrrrrrrr J_laws_eqMachine_rrrrrrrrrr Go.Proofs.Try.f10 [(AV.agg [(SV.int IntKind.i64 n), (SV.slc 0 none b), (SV.int IntKind.i64 n1), (SV.slc 1 none b1), (SV.slc 2 none b2), (SV.str s), (SV.int IntKind.i64 n2), (SV.int IntKind.i64 n3), (SV.int IntKind.i64 n4), (SV.slc 3 none b3), (SV.slc 4 none b4), (SV.int IntKind.i64 n5)]), (AV.agg [(SV.int IntKind.i64 n6), (SV.slc 5 none b5), (SV.int IntKind.i64 n7), (SV.slc 6 none b6), (SV.slc 7 none b7), (SV.str s1), (SV.int IntKind.i64 n8), (SV.int IntKind.i64 n9), (SV.int IntKind.i64 n10), (SV.slc 8 none b8), (SV.slc 9 none b9), (SV.int IntKind.i64 n11)])] [(some (HE.mk true (HB.rows (B.i64 l)))), (some (HE.mk true (HB.rows (B.i64 l1)))), (some (HE.mk true (HB.rows (B.i64 l2)))), (some (HE.mk true (HB.rows (B.iPortValue l3)))), (some (HE.mk true (HB.rows (B.iPortValue l4)))), (some (HE.mk true (HB.rows (B.i64 l5)))), (some (HE.mk true (HB.rows (B.i64 l6)))), (some (HE.mk true (HB.rows (B.i64 l7)))), (some (HE.mk true (HB.rows (B.iPortValue l8)))), (some (HE.mk true (HB.rows (B.iPortValue l9))))] K =
      g_laws_eqMachine_rrrrrrrrrr N n b n1 b1 b2 s n2 n3 n4 b3 b4 n5 n6 b5 n7 b6 b7 s1 n8 n9 n10 b8 b9 n11 l l1 l2 l3 l4 l5 l6 l7 l8 l9 (fun b15 => K (AV.sc (SV.bool b15)) [(some (HE.mk true (HB.rows (B.i64 l)))), (some (HE.mk true (HB.rows (B.i64 l1)))), (some (HE.mk true (HB.rows (B.i64 l2)))), (some (HE.mk true (HB.rows (B.iPortValue l3)))), (some (HE.mk true (HB.rows (B.iPortValue l4)))), (some (HE.mk true (HB.rows (B.i64 l5)))), (some (HE.mk true (HB.rows (B.i64 l6)))), (some (HE.mk true (HB.rows (B.i64 l7)))), (some (HE.mk true (HB.rows (B.iPortValue l8)))), (some (HE.mk true (HB.rows (B.iPortValue l9))))]) := castPr (by kernel_rfl) (ea_e_laws_eqMachine_rrrrrrrrrr N (g_laws_eqPortValueS_rr N) (g_laws_eqInt64S_rr N) n b n1 b1 b2 s n2 n3 n4 b3 b4 n5 n6 b5 n7 b6 b7 s1 n8 n9 n10 b8 b9 n11 l l1 l2 l3 l4 l5 l6 l7 l8 l9 K)
noncomputable def o_laws_eqMachine_rrrrrrrrrr (N : Nat) {R : Type} (args : List AV) (H : Hp E) (K : AV → Hp E → Option R) : Option R :=
  match args, H with
  | [(AV.agg [(SV.int IntKind.i64 n), (SV.slc 0 none b), (SV.int IntKind.i64 n1), (SV.slc 1 none b1), (SV.slc 2 none b2), (SV.str s), (SV.int IntKind.i64 n2), (SV.int IntKind.i64 n3), (SV.int IntKind.i64 n4), (SV.slc 3 none b3), (SV.slc 4 none b4), (SV.int IntKind.i64 n5)]), (AV.agg [(SV.int IntKind.i64 n6), (SV.slc 5 none b5), (SV.int IntKind.i64 n7), (SV.slc 6 none b6), (SV.slc 7 none b7), (SV.str s1), (SV.int IntKind.i64 n8), (SV.int IntKind.i64 n9), (SV.int IntKind.i64 n10), (SV.slc 8 none b8), (SV.slc 9 none b9), (SV.int IntKind.i64 n11)])], [(some (HE.mk true (HB.rows (B.i64 l)))), (some (HE.mk true (HB.rows (B.i64 l1)))), (some (HE.mk true (HB.rows (B.i64 l2)))), (some (HE.mk true (HB.rows (B.iPortValue l3)))), (some (HE.mk true (HB.rows (B.iPortValue l4)))), (some (HE.mk true (HB.rows (B.i64 l5)))), (some (HE.mk true (HB.rows (B.i64 l6)))), (some (HE.mk true (HB.rows (B.i64 l7)))), (some (HE.mk true (HB.rows (B.iPortValue l8)))), (some (HE.mk true (HB.rows (B.iPortValue l9))))] => g_laws_eqMachine_rrrrrrrrrr N n b n1 b1 b2 s n2 n3 n4 b3 b4 n5 n6 b5 n7 b6 b7 s1 n8 n9 n10 b8 b9 n11 l l1 l2 l3 l4 l5 l6 l7 l8 l9 (fun b15 => K (AV.sc (SV.bool b15)) [(some (HE.mk true (HB.rows (B.i64 l)))), (some (HE.mk true (HB.rows (B.i64 l1)))), (some (HE.mk true (HB.rows (B.i64 l2)))), (some (HE.mk true (HB.rows (B.iPortValue l3)))), (some (HE.mk true (HB.rows (B.iPortValue l4)))), (some (HE.mk true (HB.rows (B.i64 l5)))), (some (HE.mk true (HB.rows (B.i64 l6)))), (some (HE.mk true (HB.rows (B.i64 l7)))), (some (HE.mk true (HB.rows (B.iPortValue l8)))), (some (HE.mk true (HB.rows (B.iPortValue l9))))])
  | _, _ => none
theorem o_laws_eqMachine_rrrrrrrrrr_ok (N : Nat) : FnOk E 10 (o_laws_eqMachine_rrrrrrrrrr N) := by
  intro R args H K r h
  unfold o_laws_eqMachine_rrrrrrrrrr at h
  dsimp only at h
  split at h
  · exact fnB_ok (ids := []) (top := []) ok (O_laws_eqMachine_rrrrrrrrrr_ok N) (jn_ok _ _ _) Go.Proofs.Try.func10 (by kernel_rfl) (IT := noIt) (sl := sl_laws_eqMachine_rrrrrrrrrr) (J := J_laws_eqMachine_rrrrrrrrrr) (K := K) (H := [(some (HE.mk true (HB.rows (B.i64 _)))), (some (HE.mk true (HB.rows (B.i64 _)))), (some (HE.mk true (HB.rows (B.i64 _)))), (some (HE.mk true (HB.rows (B.iPortValue _)))), (some (HE.mk true (HB.rows (B.iPortValue _)))), (some (HE.mk true (HB.rows (B.i64 _)))), (some (HE.mk true (HB.rows (B.i64 _)))), (some (HE.mk true (HB.rows (B.i64 _)))), (some (HE.mk true (HB.rows (B.iPortValue _)))), (some (HE.mk true (HB.rows (B.iPortValue _))))]) (noIt_ok) (by kernel_rfl) rfl ((e_laws_eqMachine_rrrrrrrrrr N _ _ _ _ _ _ _ _ _ _ _ _ _ _ _ _ _ _ _ _ _ _ _ _ _ _ _ _ _ _ _ _ _ _ K).trans h)
  · cases h
/-! ### loop.example/g00038/laws.FnExactPackMachine -/
abbrev sl_laws_FnExactPackMachine_rrrrr : SlotT := []
abbrev J_laws_FnExactPackMachine_rrrrr : JT := jn [] [] []
noncomputable def O_laws_FnExactPackMachine_rrrrr (N : Nat) : Orc E := addFn 10 (o_laws_eqMachine_rrrrrrrrrr N) (addFn 9 (o_impl_PackMachine_wwwww N) (addFn 7 (o_spec_PackMachine_wwwww N) (addFn 8 (o_laws_toMachine_rrrrr N) (addFn 6 (o_laws_szMachine_rrrrr N) (noFn)))))
noncomputable def pa_laws_FnExactPackMachine_rrrrr__o_laws_eqMachine_rrrrrrrrrr (N : Nat) (G_laws_eqMachine_rrrrrrrrrr : ∀ {R : Type} (n : Int) (b : Bool) (n1 : Int) (b1 : Bool) (b2 : Bool) (s : ByteArray) (n2 : Int) (n3 : Int) (n4 : Int) (b3 : Bool) (b4 : Bool) (n5 : Int) (n6 : Int) (b5 : Bool) (n7 : Int) (b6 : Bool) (b7 : Bool) (s1 : ByteArray) (n8 : Int) (n9 : Int) (n10 : Int) (b8 : Bool) (b9 : Bool) (n11 : Int) (l : List Int) (l1 : List Int) (l2 : List Int) (l3 : List PortValue) (l4 : List PortValue) (l5 : List Int) (l6 : List Int) (l7 : List Int) (l8 : List PortValue) (l9 : List PortValue) (k : Bool → Option R), Option R) {R : Type} (args : List AV) (H : Hp E) (K : AV → Hp E → Option R) : Option R :=
  match args, H with
  | [(AV.agg [(SV.int IntKind.i64 n), (SV.slc 0 none b), (SV.int IntKind.i64 n1), (SV.slc 1 none b1), (SV.slc 2 none b2), (SV.str s), (SV.int IntKind.i64 n2), (SV.int IntKind.i64 n3), (SV.int IntKind.i64 n4), (SV.slc 3 none b3), (SV.slc 4 none b4), (SV.int IntKind.i64 n5)]), (AV.agg [(SV.int IntKind.i64 n6), (SV.slc 5 none b5), (SV.int IntKind.i64 n7), (SV.slc 6 none b6), (SV.slc 7 none b7), (SV.str s1), (SV.int IntKind.i64 n8), (SV.int IntKind.i64 n9), (SV.int IntKind.i64 n10), (SV.slc 8 none b8), (SV.slc 9 none b9), (SV.int IntKind.i64 n11)])], [(some (HE.mk true (HB.rows (B.i64 l)))), (some (HE.mk true (HB.rows (B.i64 l1)))), (some (HE.mk true (HB.rows (B.i64 l2)))), (some (HE.mk true (HB.rows (B.iPortValue l3)))), (some (HE.mk true (HB.rows (B.iPortValue l4)))), (some (HE.mk true (HB.rows (B.i64 l5)))), (some (HE.mk true (HB.rows (B.i64 l6)))), (some (HE.mk true (HB.rows (B.i64 l7)))), (some (HE.mk true (HB.rows (B.iPortValue l8)))), (some (HE.mk true (HB.rows (B.iPortValue l9))))] => G_laws_eqMachine_rrrrrrrrrr n b n1 b1 b2 s n2 n3 n4 b3 b4 n5 n6 b5 n7 b6 b7 s1 n8 n9 n10 b8 b9 n11 l l1 l2 l3 l4 l5 l6 l7 l8 l9 (fun b15 => K (AV.sc (SV.bool b15)) [(some (HE.mk true (HB.rows (B.i64 l)))), (some (HE.mk true (HB.rows (B.i64 l1)))), (some (HE.mk true (HB.rows (B.i64 l2)))), (some (HE.mk true (HB.rows (B.iPortValue l3)))), (some (HE.mk true (HB.rows (B.iPortValue l4)))), (some (HE.mk true (HB.rows (B.i64 l5)))), (some (HE.mk true (HB.rows (B.i64 l6)))), (some (HE.mk true (HB.rows (B.i64 l7)))), (some (HE.mk true (HB.rows (B.iPortValue l8)))), (some (HE.mk true (HB.rows (B.iPortValue l9))))])
  | _, _ => none
noncomputable def pa_laws_FnExactPackMachine_rrrrr__o_impl_PackMachine_wwwww (N : Nat) (G_impl_PackMachine_wwwww : ∀ {R : Type} (n : Int) (b : Bool) (n1 : Int) (b1 : Bool) (b2 : Bool) (s : ByteArray) (n2 : Int) (n3 : Int) (n4 : Int) (b3 : Bool) (b4 : Bool) (n5 : Int) (l : List Int) (l1 : List Int) (l2 : List Int) (l3 : List PortValue) (l4 : List PortValue) (k : ByteArray → (List Int) → (List Int) → (List Int) → Option R), Option R) {R : Type} (args : List AV) (H : Hp E) (K : AV → Hp E → Option R) : Option R :=
  match args, H with
  | [(AV.agg [(SV.int IntKind.i64 n), (SV.slc 0 none b), (SV.int IntKind.i64 n1), (SV.slc 1 none b1), (SV.slc 2 none b2), (SV.str s), (SV.int IntKind.i64 n2), (SV.int IntKind.i64 n3), (SV.int IntKind.i64 n4), (SV.slc 3 none b3), (SV.slc 4 none b4), (SV.int IntKind.i64 n5)])], [(some (HE.mk false (HB.rows (B.i64 l)))), (some (HE.mk false (HB.rows (B.i64 l1)))), (some (HE.mk false (HB.rows (B.i64 l2)))), (some (HE.mk false (HB.rows (B.iPortValue l3)))), (some (HE.mk false (HB.rows (B.iPortValue l4))))] => G_impl_PackMachine_wwwww n b n1 b1 b2 s n2 n3 n4 b3 b4 n5 l l1 l2 l3 l4 (fun s70 l115 l116 l117 => K (AV.sc (SV.str s70)) [(some (HE.mk false (HB.rows (B.i64 l115)))), (some (HE.mk false (HB.rows (B.i64 l116)))), (some (HE.mk false (HB.rows (B.i64 l117)))), (some (HE.mk false (HB.rows (B.iPortValue l3)))), (some (HE.mk false (HB.rows (B.iPortValue l4))))])
  | _, _ => none
noncomputable def pa_laws_FnExactPackMachine_rrrrr__o_spec_PackMachine_wwwww (N : Nat) (G_spec_PackMachine_wwwww : ∀ {R : Type} (n : Int) (b : Bool) (n1 : Int) (b1 : Bool) (b2 : Bool) (s : ByteArray) (n2 : Int) (n3 : Int) (n4 : Int) (b3 : Bool) (b4 : Bool) (n5 : Int) (l : List Int) (l1 : List Int) (l2 : List Int) (l3 : List PortValue) (l4 : List PortValue) (k : ByteArray → Option R), Option R) {R : Type} (args : List AV) (H : Hp E) (K : AV → Hp E → Option R) : Option R :=
  match args, H with
  | [(AV.agg [(SV.int IntKind.i64 n), (SV.slc 0 none b), (SV.int IntKind.i64 n1), (SV.slc 1 none b1), (SV.slc 2 none b2), (SV.str s), (SV.int IntKind.i64 n2), (SV.int IntKind.i64 n3), (SV.int IntKind.i64 n4), (SV.slc 3 none b3), (SV.slc 4 none b4), (SV.int IntKind.i64 n5)])], [(some (HE.mk false (HB.rows (B.i64 l)))), (some (HE.mk false (HB.rows (B.i64 l1)))), (some (HE.mk false (HB.rows (B.i64 l2)))), (some (HE.mk false (HB.rows (B.iPortValue l3)))), (some (HE.mk false (HB.rows (B.iPortValue l4))))] => G_spec_PackMachine_wwwww n b n1 b1 b2 s n2 n3 n4 b3 b4 n5 l l1 l2 l3 l4 (fun s14 => K (AV.sc (SV.str s14)) [(some (HE.mk false (HB.rows (B.i64 l)))), (some (HE.mk false (HB.rows (B.i64 l1)))), (some (HE.mk false (HB.rows (B.i64 l2)))), (some (HE.mk false (HB.rows (B.iPortValue l3)))), (some (HE.mk false (HB.rows (B.iPortValue l4))))])
  | _, _ => none
noncomputable def pa_laws_FnExactPackMachine_rrrrr__o_laws_toMachine_rrrrr (N : Nat) (G_laws_toMachine_rrrrr : ∀ {R : Type} (n : Int) (b : Bool) (n1 : Int) (b1 : Bool) (b2 : Bool) (s : ByteArray) (n2 : Int) (n3 : Int) (n4 : Int) (b3 : Bool) (b4 : Bool) (n5 : Int) (l : List Int) (l1 : List Int) (l2 : List Int) (l3 : List PortValue) (l4 : List PortValue) (k : (List Int) → (List Int) → (List Int) → (List PortValue) → (List PortValue) → Option R), Option R) {R : Type} (args : List AV) (H : Hp E) (K : AV → Hp E → Option R) : Option R :=
  match args, H with
  | [(AV.agg [(SV.int IntKind.i64 n), (SV.slc 0 none b), (SV.int IntKind.i64 n1), (SV.slc 1 none b1), (SV.slc 2 none b2), (SV.str s), (SV.int IntKind.i64 n2), (SV.int IntKind.i64 n3), (SV.int IntKind.i64 n4), (SV.slc 3 none b3), (SV.slc 4 none b4), (SV.int IntKind.i64 n5)])], [(some (HE.mk true (HB.rows (B.i64 l)))), (some (HE.mk true (HB.rows (B.i64 l1)))), (some (HE.mk true (HB.rows (B.i64 l2)))), (some (HE.mk true (HB.rows (B.lPortValue l3)))), (some (HE.mk true (HB.rows (B.lPortValue l4))))] => G_laws_toMachine_rrrrr n b n1 b1 b2 s n2 n3 n4 b3 b4 n5 l l1 l2 l3 l4 (fun l10 l11 l12 l13 l14 => K (AV.agg [(SV.int IntKind.i64 n), (SV.slc 5 none false), (SV.int IntKind.i64 n1), (SV.slc 6 none false), (SV.slc 7 none false), (SV.str s), (SV.int IntKind.i64 n2), (SV.int IntKind.i64 n3), (SV.int IntKind.i64 n4), (SV.slc 8 none false), (SV.slc 9 none false), (SV.int IntKind.i64 n5)]) [(some (HE.mk true (HB.rows (B.i64 l)))), (some (HE.mk true (HB.rows (B.i64 l1)))), (some (HE.mk true (HB.rows (B.i64 l2)))), (some (HE.mk true (HB.rows (B.lPortValue l3)))), (some (HE.mk true (HB.rows (B.lPortValue l4)))), (some (HE.mk false (HB.rows (B.i64 l10)))), (some (HE.mk false (HB.rows (B.i64 l11)))), (some (HE.mk false (HB.rows (B.i64 l12)))), (some (HE.mk false (HB.rows (B.iPortValue l13)))), (some (HE.mk false (HB.rows (B.iPortValue l14))))])
  | _, _ => none
noncomputable def pa_laws_FnExactPackMachine_rrrrr__o_laws_szMachine_rrrrr (N : Nat) (G_laws_szMachine_rrrrr : ∀ {R : Type} (n : Int) (b : Bool) (n1 : Int) (b1 : Bool) (b2 : Bool) (s : ByteArray) (n2 : Int) (n3 : Int) (n4 : Int) (b3 : Bool) (b4 : Bool) (n5 : Int) (n6 : Int) (l : List Int) (l1 : List Int) (l2 : List Int) (l3 : List PortValue) (l4 : List PortValue) (k : Int → Option R), Option R) {R : Type} (args : List AV) (H : Hp E) (K : AV → Hp E → Option R) : Option R :=
  match args, H with
  | [(AV.agg [(SV.int IntKind.i64 n), (SV.slc 0 none b), (SV.int IntKind.i64 n1), (SV.slc 1 none b1), (SV.slc 2 none b2), (SV.str s), (SV.int IntKind.i64 n2), (SV.int IntKind.i64 n3), (SV.int IntKind.i64 n4), (SV.slc 3 none b3), (SV.slc 4 none b4), (SV.int IntKind.i64 n5)]), (AV.sc (SV.int IntKind.i64 n6))], [(some (HE.mk true (HB.rows (B.i64 l)))), (some (HE.mk true (HB.rows (B.i64 l1)))), (some (HE.mk true (HB.rows (B.i64 l2)))), (some (HE.mk true (HB.rows (B.lPortValue l3)))), (some (HE.mk true (HB.rows (B.lPortValue l4))))] => G_laws_szMachine_rrrrr n b n1 b1 b2 s n2 n3 n4 b3 b4 n5 n6 l l1 l2 l3 l4 (fun n12 => K (AV.sc (SV.int IntKind.i64 n12)) [(some (HE.mk true (HB.rows (B.i64 l)))), (some (HE.mk true (HB.rows (B.i64 l1)))), (some (HE.mk true (HB.rows (B.i64 l2)))), (some (HE.mk true (HB.rows (B.lPortValue l3)))), (some (HE.mk true (HB.rows (B.lPortValue l4))))])
  | _, _ => none
noncomputable def OA_laws_FnExactPackMachine_rrrrr (N : Nat) (G_laws_eqMachine_rrrrrrrrrr : ∀ {R : Type} (n : Int) (b : Bool) (n1 : Int) (b1 : Bool) (b2 : Bool) (s : ByteArray) (n2 : Int) (n3 : Int) (n4 : Int) (b3 : Bool) (b4 : Bool) (n5 : Int) (n6 : Int) (b5 : Bool) (n7 : Int) (b6 : Bool) (b7 : Bool) (s1 : ByteArray) (n8 : Int) (n9 : Int) (n10 : Int) (b8 : Bool) (b9 : Bool) (n11 : Int) (l : List Int) (l1 : List Int) (l2 : List Int) (l3 : List PortValue) (l4 : List PortValue) (l5 : List Int) (l6 : List Int) (l7 : List Int) (l8 : List PortValue) (l9 : List PortValue) (k : Bool → Option R), Option R) (G_impl_PackMachine_wwwww : ∀ {R : Type} (n : Int) (b : Bool) (n1 : Int) (b1 : Bool) (b2 : Bool) (s : ByteArray) (n2 : Int) (n3 : Int) (n4 : Int) (b3 : Bool) (b4 : Bool) (n5 : Int) (l : List Int) (l1 : List Int) (l2 : List Int) (l3 : List PortValue) (l4 : List PortValue) (k : ByteArray → (List Int) → (List Int) → (List Int) → Option R), Option R) (G_spec_PackMachine_wwwww : ∀ {R : Type} (n : Int) (b : Bool) (n1 : Int) (b1 : Bool) (b2 : Bool) (s : ByteArray) (n2 : Int) (n3 : Int) (n4 : Int) (b3 : Bool) (b4 : Bool) (n5 : Int) (l : List Int) (l1 : List Int) (l2 : List Int) (l3 : List PortValue) (l4 : List PortValue) (k : ByteArray → Option R), Option R) (G_laws_toMachine_rrrrr : ∀ {R : Type} (n : Int) (b : Bool) (n1 : Int) (b1 : Bool) (b2 : Bool) (s : ByteArray) (n2 : Int) (n3 : Int) (n4 : Int) (b3 : Bool) (b4 : Bool) (n5 : Int) (l : List Int) (l1 : List Int) (l2 : List Int) (l3 : List PortValue) (l4 : List PortValue) (k : (List Int) → (List Int) → (List Int) → (List PortValue) → (List PortValue) → Option R), Option R) (G_laws_szMachine_rrrrr : ∀ {R : Type} (n : Int) (b : Bool) (n1 : Int) (b1 : Bool) (b2 : Bool) (s : ByteArray) (n2 : Int) (n3 : Int) (n4 : Int) (b3 : Bool) (b4 : Bool) (n5 : Int) (n6 : Int) (l : List Int) (l1 : List Int) (l2 : List Int) (l3 : List PortValue) (l4 : List PortValue) (k : Int → Option R), Option R) : Orc E := addFn 10 (pa_laws_FnExactPackMachine_rrrrr__o_laws_eqMachine_rrrrrrrrrr N G_laws_eqMachine_rrrrrrrrrr) (addFn 9 (pa_laws_FnExactPackMachine_rrrrr__o_impl_PackMachine_wwwww N G_impl_PackMachine_wwwww) (addFn 7 (pa_laws_FnExactPackMachine_rrrrr__o_spec_PackMachine_wwwww N G_spec_PackMachine_wwwww) (addFn 8 (pa_laws_FnExactPackMachine_rrrrr__o_laws_toMachine_rrrrr N G_laws_toMachine_rrrrr) (addFn 6 (pa_laws_FnExactPackMachine_rrrrr__o_laws_szMachine_rrrrr N G_laws_szMachine_rrrrr) (noFn)))))
theorem O_laws_FnExactPackMachine_rrrrr_ok (N : Nat) : OrcOk (O_laws_FnExactPackMachine_rrrrr N) := addFn_ok (o_laws_eqMachine_rrrrrrrrrr_ok N) (addFn_ok (o_impl_PackMachine_wwwww_ok N) (addFn_ok (o_spec_PackMachine_wwwww_ok N) (addFn_ok (o_laws_toMachine_rrrrr_ok N) (addFn_ok (o_laws_szMachine_rrrrr_ok N) (noFn_ok)))))
noncomputable def g_laws_FnExactPackMachine_rrrrr (N : Nat) {R : Type} (n : Int) (b : Bool) (n1 : Int) (b1 : Bool) (b2 : Bool) (s : ByteArray) (n2 : Int) (n3 : Int) (n4 : Int) (b3 : Bool) (b4 : Bool) (n5 : Int) (l : List Int) (l1 : List Int) (l2 : List Int) (l3 : List PortValue) (l4 : List PortValue) (k : Bool → Option R) : Option R :=
  (g_laws_szMachine_rrrrr N n b n1 b1 b2 s n2 n3 n4 b3 b4 n5 (1048576 : Int) l l1 l2 l3 l4 fun n6 =>
  (cond (decide ((n6 < (0 : Int))))
  (k true)
  (g_laws_toMachine_rrrrr N n b n1 b1 b2 s n2 n3 n4 b3 b4 n5 l l1 l2 l3 l4 fun l5 l6 l7 l8 l9 =>
    (g_spec_PackMachine_wwwww N n false n1 false false s n2 n3 n4 false false n5 l5 l6 l7 l8 l9 fun s1 =>
    (g_laws_toMachine_rrrrr N n b n1 b1 b2 s n2 n3 n4 b3 b4 n5 l l1 l2 l3 l4 fun l10 l11 l12 l13 l14 =>
    (g_impl_PackMachine_wwwww N n false n1 false false s n2 n3 n4 false false n5 l10 l11 l12 l13 l14 fun s2 l15 l16 l17 =>
    (cond (!(decide ((s2 = s1))))
    (k false)
    (g_laws_toMachine_rrrrr N n b n1 b1 b2 s n2 n3 n4 b3 b4 n5 l l1 l2 l3 l4 fun l18 l19 l20 l21 l22 =>
      (g_laws_eqMachine_rrrrrrrrrr N n false n1 false false s n2 n3 n4 false false n5 n false n1 false false s n2 n3 n4 false false n5 l15 l16 l17 l13 l14 l18 l19 l20 l21 l22 fun b5 =>
      (cond (!b5)
      (k false)
      (k true)))))))))))
noncomputable def ga_g_laws_FnExactPackMachine_rrrrr (N : Nat) (G_laws_eqMachine_rrrrrrrrrr : ∀ {R : Type} (n : Int) (b : Bool) (n1 : Int) (b1 : Bool) (b2 : Bool) (s : ByteArray) (n2 : Int) (n3 : Int) (n4 : Int) (b3 : Bool) (b4 : Bool) (n5 : Int) (n6 : Int) (b5 : Bool) (n7 : Int) (b6 : Bool) (b7 : Bool) (s1 : ByteArray) (n8 : Int) (n9 : Int) (n10 : Int) (b8 : Bool) (b9 : Bool) (n11 : Int) (l : List Int) (l1 : List Int) (l2 : List Int) (l3 : List PortValue) (l4 : List PortValue) (l5 : List Int) (l6 : List Int) (l7 : List Int) (l8 : List PortValue) (l9 : List PortValue) (k : Bool → Option R), Option R) (G_impl_PackMachine_wwwww : ∀ {R : Type} (n : Int) (b : Bool) (n1 : Int) (b1 : Bool) (b2 : Bool) (s : ByteArray) (n2 : Int) (n3 : Int) (n4 : Int) (b3 : Bool) (b4 : Bool) (n5 : Int) (l : List Int) (l1 : List Int) (l2 : List Int) (l3 : List PortValue) (l4 : List PortValue) (k : ByteArray → (List Int) → (List Int) → (List Int) → Option R), Option R) (G_spec_PackMachine_wwwww : ∀ {R : Type} (n : Int) (b : Bool) (n1 : Int) (b1 : Bool) (b2 : Bool) (s : ByteArray) (n2 : Int) (n3 : Int) (n4 : Int) (b3 : Bool) (b4 : Bool) (n5 : Int) (l : List Int) (l1 : List Int) (l2 : List Int) (l3 : List PortValue) (l4 : List PortValue) (k : ByteArray → Option R), Option R) (G_laws_toMachine_rrrrr : ∀ {R : Type} (n : Int) (b : Bool) (n1 : Int) (b1 : Bool) (b2 : Bool) (s : ByteArray) (n2 : Int) (n3 : Int) (n4 : Int) (b3 : Bool) (b4 : Bool) (n5 : Int) (l : List Int) (l1 : List Int) (l2 : List Int) (l3 : List PortValue) (l4 : List PortValue) (k : (List Int) → (List Int) → (List Int) → (List PortValue) → (List PortValue) → Option R), Option R) (G_laws_szMachine_rrrrr : ∀ {R : Type} (n : Int) (b : Bool) (n1 : Int) (b1 : Bool) (b2 : Bool) (s : ByteArray) (n2 : Int) (n3 : Int) (n4 : Int) (b3 : Bool) (b4 : Bool) (n5 : Int) (n6 : Int) (l : List Int) (l1 : List Int) (l2 : List Int) (l3 : List PortValue) (l4 : List PortValue) (k : Int → Option R), Option R) {R : Type} (n : Int) (b : Bool) (n1 : Int) (b1 : Bool) (b2 : Bool) (s : ByteArray) (n2 : Int) (n3 : Int) (n4 : Int) (b3 : Bool) (b4 : Bool) (n5 : Int) (l : List Int) (l1 : List Int) (l2 : List Int) (l3 : List PortValue) (l4 : List PortValue) (k : Bool → Option R) : Option R :=
  (G_laws_szMachine_rrrrr n b n1 b1 b2 s n2 n3 n4 b3 b4 n5 (1048576 : Int) l l1 l2 l3 l4 fun n6 =>
  (cond (decide ((n6 < (0 : Int))))
  (k true)
  (G_laws_toMachine_rrrrr n b n1 b1 b2 s n2 n3 n4 b3 b4 n5 l l1 l2 l3 l4 fun l5 l6 l7 l8 l9 =>
    (G_spec_PackMachine_wwwww n false n1 false false s n2 n3 n4 false false n5 l5 l6 l7 l8 l9 fun s1 =>
    (G_laws_toMachine_rrrrr n b n1 b1 b2 s n2 n3 n4 b3 b4 n5 l l1 l2 l3 l4 fun l10 l11 l12 l13 l14 =>
    (G_impl_PackMachine_wwwww n false n1 false false s n2 n3 n4 false false n5 l10 l11 l12 l13 l14 fun s2 l15 l16 l17 =>
    (cond (!(decide ((s2 = s1))))
    (k false)
    (G_laws_toMachine_rrrrr n b n1 b1 b2 s n2 n3 n4 b3 b4 n5 l l1 l2 l3 l4 fun l18 l19 l20 l21 l22 =>
      (G_laws_eqMachine_rrrrrrrrrr n false n1 false false s n2 n3 n4 false false n5 n false n1 false false s n2 n3 n4 false false n5 l15 l16 l17 l13 l14 l18 l19 l20 l21 l22 fun b5 =>
      (cond (!b5)
      (k false)
      (k true)))))))))))
theorem ea_e_laws_FnExactPackMachine_rrrrr (N : Nat) (G_laws_eqMachine_rrrrrrrrrr : ∀ {R : Type} (n : Int) (b : Bool) (n1 : Int) (b1 : Bool) (b2 : Bool) (s : ByteArray) (n2 : Int) (n3 : Int) (n4 : Int) (b3 : Bool) (b4 : Bool) (n5 : Int) (n6 : Int) (b5 : Bool) (n7 : Int) (b6 : Bool) (b7 : Bool) (s1 : ByteArray) (n8 : Int) (n9 : Int) (n10 : Int) (b8 : Bool) (b9 : Bool) (n11 : Int) (l : List Int) (l1 : List Int) (l2 : List Int) (l3 : List PortValue) (l4 : List PortValue) (l5 : List Int) (l6 : List Int) (l7 : List Int) (l8 : List PortValue) (l9 : List PortValue) (k : Bool → Option R), Option R) (G_impl_PackMachine_wwwww : ∀ {R : Type} (n : Int) (b : Bool) (n1 : Int) (b1 : Bool) (b2 : Bool) (s : ByteArray) (n2 : Int) (n3 : Int) (n4 : Int) (b3 : Bool) (b4 : Bool) (n5 : Int) (l : List Int) (l1 : List Int) (l2 : List Int) (l3 : List PortValue) (l4 : List PortValue) (k : ByteArray → (List Int) → (List Int) → (List Int) → Option R), Option R) (G_spec_PackMachine_wwwww : ∀ {R : Type} (n : Int) (b : Bool) (n1 : Int) (b1 : Bool) (b2 : Bool) (s : ByteArray) (n2 : Int) (n3 : Int) (n4 : Int) (b3 : Bool) (b4 : Bool) (n5 : Int) (l : List Int) (l1 : List Int) (l2 : List Int) (l3 : List PortValue) (l4 : List PortValue) (k : ByteArray → Option R), Option R) (G_laws_toMachine_rrrrr : ∀ {R : Type} (n : Int) (b : Bool) (n1 : Int) (b1 : Bool) (b2 : Bool) (s : ByteArray) (n2 : Int) (n3 : Int) (n4 : Int) (b3 : Bool) (b4 : Bool) (n5 : Int) (l : List Int) (l1 : List Int) (l2 : List Int) (l3 : List PortValue) (l4 : List PortValue) (k : (List Int) → (List Int) → (List Int) → (List PortValue) → (List PortValue) → Option R), Option R) (G_laws_szMachine_rrrrr : ∀ {R : Type} (n : Int) (b : Bool) (n1 : Int) (b1 : Bool) (b2 : Bool) (s : ByteArray) (n2 : Int) (n3 : Int) (n4 : Int) (b3 : Bool) (b4 : Bool) (n5 : Int) (n6 : Int) (l : List Int) (l1 : List Int) (l2 : List Int) (l3 : List PortValue) (l4 : List PortValue) (k : Int → Option R), Option R) {R : Type} (n : Int) (b : Bool) (n1 : Int) (b1 : Bool) (b2 : Bool) (s : ByteArray) (n2 : Int) (n3 : Int) (n4 : Int) (b3 : Bool) (b4 : Bool) (n5 : Int) (l : List Int) (l1 : List Int) (l2 : List Int) (l3 : List PortValue) (l4 : List PortValue) (K : AV → Hp E → Option R) :
    runFnI (E := E) (OA_laws_FnExactPackMachine_rrrrr N G_laws_eqMachine_rrrrrrrrrr G_impl_PackMachine_wwwww G_spec_PackMachine_wwwww G_laws_toMachine_rrrrr G_laws_szMachine_rrrrr) (noIt) sl_laws_FnExactPackMachine_rrrrr J_laws_FnExactPackMachine_rrrrr Go.Proofs.Try.f3 [(AV.agg [(SV.int IntKind.i64 n), (SV.slc 0 none b), (SV.int IntKind.i64 n1), (SV.slc 1 none b1), (SV.slc 2 none b2), (SV.str s), (SV.int IntKind.i64 n2), (SV.int IntKind.i64 n3), (SV.int IntKind.i64 n4), (SV.slc 3 none b3), (SV.slc 4 none b4), (SV.int IntKind.i64 n5)])] [(some (HE.mk true (HB.rows (B.i64 l)))), (some (HE.mk true (HB.rows (B.i64 l1)))), (some (HE.mk true (HB.rows (B.i64 l2)))), (some (HE.mk true (HB.rows (B.lPortValue l3)))), (some (HE.mk true (HB.rows (B.lPortValue l4))))] K =
      ga_g_laws_FnExactPackMachine_rrrrr N G_laws_eqMachine_rrrrrrrrrr G_impl_PackMachine_wwwww G_spec_PackMachine_wwwww G_laws_toMachine_rrrrr G_laws_szMachine_rrrrr n b n1 b1 b2 s n2 n3 n4 b3 b4 n5 l l1 l2 l3 l4 (fun b6 => K (AV.sc (SV.bool b6)) [(some (HE.mk true (HB.rows (B.i64 l)))), (some (HE.mk true (HB.rows (B.i64 l1)))), (some (HE.mk true (HB.rows (B.i64 l2)))), (some (HE.mk true (HB.rows (B.lPortValue l3)))), (some (HE.mk true (HB.rows (B.lPortValue l4))))]) := by kernel_rfl
theorem e_laws_FnExactPackMachine_rrrrr (N : Nat) {R : Type} (n : Int) (b : Bool) (n1 : Int) (b1 : Bool) (b2 : Bool) (s : ByteArray) (n2 : Int) (n3 : Int) (n4 : Int) (b3 : Bool) (b4 : Bool) (n5 : Int) (l : List Int) (l1 : List Int) (l2 : List Int) (l3 : List PortValue) (l4 : List PortValue) (K : AV → Hp E → Option R) :
    runFnI (E := E) (O_laws_FnExactPackMachine_rrrrr N) (noIt) sl_laws_FnExactPackMachine_rrrrr J_laws_FnExactPackMachine_rrrrr Go.Proofs.Try.f3 [(AV.agg [(SV.int IntKind.i64 n), (SV.slc 0 none b), (SV.int IntKind.i64 n1), (SV.slc 1 none b1), (SV.slc 2 none b2), (SV.str s), (SV.int IntKind.i64 n2), (SV.int IntKind.i64 n3), (SV.int IntKind.i64 n4), (SV.slc 3 none b3), (SV.slc 4 none b4), (SV.int IntKind.i64 n5)])] [(some (HE.mk true (HB.rows (B.i64 l)))), (some (HE.mk true (HB.rows (B.i64 l1)))), (some (HE.mk true (HB.rows (B.i64 l2)))), (some (HE.mk true (HB.rows (B.lPortValue l3)))), (some (HE.mk true (HB.rows (B.lPortValue l4))))] K =
      g_laws_FnExactPackMachine_rrrrr N n b n1 b1 b2 s n2 n3 n4 b3 b4 n5 l l1 l2 l3 l4 (fun b6 => K (AV.sc (SV.bool b6)) [(some (HE.mk true (HB.rows (B.i64 l)))), (some (HE.mk true (HB.rows (B.i64 l1)))), (some (HE.mk true (HB.rows (B.i64 l2)))), (some (HE.mk true (HB.rows (B.lPortValue l3)))), (some (HE.mk true (HB.rows (B.lPortValue l4))))]) := castPr (by kernel_rfl) (ea_e_laws_FnExactPackMachine_rrrrr N (g_laws_eqMachine_rrrrrrrrrr N) (g_impl_PackMachine_wwwww N) (g_spec_PackMachine_wwwww N) (g_laws_toMachine_rrrrr N) (g_laws_szMachine_rrrrr N) n b n1 b1 b2 s n2 n3 n4 b3 b4 n5 l l1 l2 l3 l4 K)
noncomputable def o_laws_FnExactPackMachine_rrrrr (N : Nat) {R : Type} (args : List AV) (H : Hp E) (K : AV → Hp E → Option R) : Option R :=
  match args, H with
  | [(AV.agg [(SV.int IntKind.i64 n), (SV.slc 0 none b), (SV.int IntKind.i64 n1), (SV.slc 1 none b1), (SV.slc 2 none b2), (SV.str s), (SV.int IntKind.i64 n2), (SV.int IntKind.i64 n3), (SV.int IntKind.i64 n4), (SV.slc 3 none b3), (SV.slc 4 none b4), (SV.int IntKind.i64 n5)])], [(some (HE.mk true (HB.rows (B.i64 l)))), (some (HE.mk true (HB.rows (B.i64 l1)))), (some (HE.mk true (HB.rows (B.i64 l2)))), (some (HE.mk true (HB.rows (B.lPortValue l3)))), (some (HE.mk true (HB.rows (B.lPortValue l4))))] => g_laws_FnExactPackMachine_rrrrr N n b n1 b1 b2 s n2 n3 n4 b3 b4 n5 l l1 l2 l3 l4 (fun b6 => K (AV.sc (SV.bool b6)) [(some (HE.mk true (HB.rows (B.i64 l)))), (some (HE.mk true (HB.rows (B.i64 l1)))), (some (HE.mk true (HB.rows (B.i64 l2)))), (some (HE.mk true (HB.rows (B.lPortValue l3)))), (some (HE.mk true (HB.rows (B.lPortValue l4))))])
  | _, _ => none
theorem o_laws_FnExactPackMachine_rrrrr_ok (N : Nat) : FnOk E 3 (o_laws_FnExactPackMachine_rrrrr N) := by
  intro R args H K r h
  unfold o_laws_FnExactPackMachine_rrrrr at h
  dsimp only at h
  split at h
  · exact fnB_ok (ids := []) (top := []) ok (O_laws_FnExactPackMachine_rrrrr_ok N) (jn_ok _ _ _) Go.Proofs.Try.func3 (by kernel_rfl) (IT := noIt) (sl := sl_laws_FnExactPackMachine_rrrrr) (J := J_laws_FnExactPackMachine_rrrrr) (K := K) (H := [(some (HE.mk true (HB.rows (B.i64 _)))), (some (HE.mk true (HB.rows (B.i64 _)))), (some (HE.mk true (HB.rows (B.i64 _)))), (some (HE.mk true (HB.rows (B.lPortValue _)))), (some (HE.mk true (HB.rows (B.lPortValue _))))]) (noIt_ok) (by kernel_rfl) rfl ((e_laws_FnExactPackMachine_rrrrr N _ _ _ _ _ _ _ _ _ _ _ _ _ _ _ _ _ K).trans h)
  · cases h
end Go.Sa
