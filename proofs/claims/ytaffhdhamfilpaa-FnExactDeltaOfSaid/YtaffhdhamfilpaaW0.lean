import Derived.Test.YtaffhdhamfilpaaSpec
import Derived.Test.YtaffhdhamfilpaaPLb
set_option linter.all false
namespace Go.Sa
open Go Go.Eng Go.Proofs
set_option maxRecDepth 100000
set_option maxHeartbeats 4000000
theorem castPr {p q : Prop} (e : p = q) (h : p) : q := e ▸ h
/-! ### loop.example/g00038/laws.szInt64S -/
abbrev sl_laws_szInt64S_r : SlotT := []
abbrev J_laws_szInt64S_r : JT := jn [] [] []
noncomputable def O_laws_szInt64S_r (N : Nat) : Orc E := noFn
theorem O_laws_szInt64S_r_ok (N : Nat) : OrcOk (O_laws_szInt64S_r N) := noFn_ok
noncomputable def g_laws_szInt64S_r (N : Nat) {R : Type} (b : Bool) (n : Int) (l : List Int) (k : Int → Option R) : Option R :=
 (cond (decide (((IntKind.wrap IntKind.i64 (n - (((List.length l) : Nat) : Int))) < (0 : Int))))
 (k (-(1 : Int)))
 (k (IntKind.wrap IntKind.i64 (n - (((List.length l) : Nat) : Int)))))
theorem e_laws_szInt64S_r (N : Nat) {R : Type} (b : Bool) (n : Int) (l : List Int) (K : AV → Hp E → Option R) :
    runFnI (E := E) (O_laws_szInt64S_r N) (noIt) sl_laws_szInt64S_r J_laws_szInt64S_r Try.f22 [(AV.sc (SV.slc 0 none b)), (AV.sc (SV.int IntKind.i64 n))] [(some (HE.mk true (HB.rows (B.i64 l))))] K =
      g_laws_szInt64S_r N b n l (fun n1 => K (AV.sc (SV.int IntKind.i64 n1)) [(some (HE.mk true (HB.rows (B.i64 l))))]) := by kernel_rfl
noncomputable def o_laws_szInt64S_r (N : Nat) {R : Type} (args : List AV) (H : Hp E) (K : AV → Hp E → Option R) : Option R :=
 match args, H with
 | [(AV.sc (SV.slc 0 none b)), (AV.sc (SV.int IntKind.i64 n))], [(some (HE.mk true (HB.rows (B.i64 l))))] => g_laws_szInt64S_r N b n l (fun n1 => K (AV.sc (SV.int IntKind.i64 n1)) [(some (HE.mk true (HB.rows (B.i64 l))))])
 | _, _ => none
theorem o_laws_szInt64S_r_ok (N : Nat) : FnOk E 22 (o_laws_szInt64S_r N) := by
  intro R args H K r h
  unfold o_laws_szInt64S_r at h
  dsimp only at h
  split at h
  · exact fnB_ok (ids := []) (top := []) ok (O_laws_szInt64S_r_ok N) (jn_ok _ _ _) Try.func22 (by kernel_rfl) (IT := noIt) (sl := sl_laws_szInt64S_r) (J := J_laws_szInt64S_r) (K := K) (H := [(some (HE.mk true (HB.rows (B.i64 _))))]) (noIt_ok) (by kernel_rfl) rfl ((e_laws_szInt64S_r N _ _ _ K).trans h)
  · cases h
/-! ### loop.example/g00038/laws.szPortValueS -/
abbrev sl_laws_szPortValueS_r : SlotT := []
abbrev J_laws_szPortValueS_r : JT := jn [] [] []
noncomputable def O_laws_szPortValueS_r (N : Nat) : Orc E := noFn
theorem O_laws_szPortValueS_r_ok (N : Nat) : OrcOk (O_laws_szPortValueS_r N) := noFn_ok
noncomputable def g_laws_szPortValueS_r (N : Nat) {R : Type} (b : Bool) (n : Int) (l : List PortValue) (k : Int → Option R) : Option R :=
 (cond (decide (((IntKind.wrap IntKind.i64 (n - (((List.length l) : Nat) : Int))) < (0 : Int))))
 (k (-(1 : Int)))
 (k (IntKind.wrap IntKind.i64 (n - (((List.length l) : Nat) : Int)))))
theorem e_laws_szPortValueS_r (N : Nat) {R : Type} (b : Bool) (n : Int) (l : List PortValue) (K : AV → Hp E → Option R) :
    runFnI (E := E) (O_laws_szPortValueS_r N) (noIt) sl_laws_szPortValueS_r J_laws_szPortValueS_r Try.f23 [(AV.sc (SV.slc 0 none b)), (AV.sc (SV.int IntKind.i64 n))] [(some (HE.mk true (HB.rows (B.lPortValue l))))] K =
      g_laws_szPortValueS_r N b n l (fun n1 => K (AV.sc (SV.int IntKind.i64 n1)) [(some (HE.mk true (HB.rows (B.lPortValue l))))]) := by kernel_rfl
noncomputable def o_laws_szPortValueS_r (N : Nat) {R : Type} (args : List AV) (H : Hp E) (K : AV → Hp E → Option R) : Option R :=
 match args, H with
 | [(AV.sc (SV.slc 0 none b)), (AV.sc (SV.int IntKind.i64 n))], [(some (HE.mk true (HB.rows (B.lPortValue l))))] => g_laws_szPortValueS_r N b n l (fun n1 => K (AV.sc (SV.int IntKind.i64 n1)) [(some (HE.mk true (HB.rows (B.lPortValue l))))])
 | _, _ => none
theorem o_laws_szPortValueS_r_ok (N : Nat) : FnOk E 23 (o_laws_szPortValueS_r N) := by
  intro R args H K r h
  unfold o_laws_szPortValueS_r at h
  dsimp only at h
  split at h
  · exact fnB_ok (ids := []) (top := []) ok (O_laws_szPortValueS_r_ok N) (jn_ok _ _ _) Try.func23 (by kernel_rfl) (IT := noIt) (sl := sl_laws_szPortValueS_r) (J := J_laws_szPortValueS_r) (K := K) (H := [(some (HE.mk true (HB.rows (B.lPortValue _))))]) (noIt_ok) (by kernel_rfl) rfl ((e_laws_szPortValueS_r N _ _ _ K).trans h)
  · cases h
/-! ### loop.example/g00038/laws.szMachine -/
abbrev sl_laws_szMachine_rrrrr : SlotT := []
abbrev J_laws_szMachine_rrrrr : JT := jn [] [] []
noncomputable def O_laws_szMachine_rrrrr (N : Nat) : Orc E := addFn 23 (o_laws_szPortValueS_r N) (addFn 22 (o_laws_szInt64S_r N) (noFn))
theorem O_laws_szMachine_rrrrr_ok (N : Nat) : OrcOk (O_laws_szMachine_rrrrr N) := addFn_ok (o_laws_szPortValueS_r_ok N) (addFn_ok (o_laws_szInt64S_r_ok N) (noFn_ok))
noncomputable def g_laws_szMachine_rrrrr (N : Nat) {R : Type} (n : Int) (b : Bool) (n1 : Int) (b1 : Bool) (b2 : Bool) (s : ByteArray) (n2 : Int) (n3 : Int) (n4 : Int) (b3 : Bool) (b4 : Bool) (n5 : Int) (n6 : Int) (l : List Int) (l1 : List Int) (l2 : List Int) (l3 : List PortValue) (l4 : List PortValue) (k : Int → Option R) : Option R :=
 (g_laws_szInt64S_r N b n6 l fun n7 =>
 (cond (decide ((n7 < (0 : Int))))
 (k (-(1 : Int)))
 (g_laws_szInt64S_r N b1 n7 l1 fun n8 =>
 (cond (decide ((n8 < (0 : Int))))
 (k (-(1 : Int)))
 (g_laws_szInt64S_r N b2 n8 l2 fun n9 =>
 (cond (decide ((n9 < (0 : Int))))
 (k (-(1 : Int)))
 (cond (decide (((IntKind.wrap IntKind.i64 (n9 - (((ByteArray.size s) : Nat) : Int))) < (0 : Int))))
 (k (-(1 : Int)))
 (g_laws_szPortValueS_r N b3 (IntKind.wrap IntKind.i64 (n9 - (((ByteArray.size s) : Nat) : Int))) l3 fun n10 =>
 (cond (decide ((n10 < (0 : Int))))
 (k (-(1 : Int)))
 (g_laws_szPortValueS_r N b4 n10 l4 fun n11 =>
 (cond (decide ((n11 < (0 : Int))))
 (k (-(1 : Int)))
 (k n11))))))))))))
theorem e_laws_szMachine_rrrrr (N : Nat) {R : Type} (n : Int) (b : Bool) (n1 : Int) (b1 : Bool) (b2 : Bool) (s : ByteArray) (n2 : Int) (n3 : Int) (n4 : Int) (b3 : Bool) (b4 : Bool) (n5 : Int) (n6 : Int) (l : List Int) (l1 : List Int) (l2 : List Int) (l3 : List PortValue) (l4 : List PortValue) (K : AV → Hp E → Option R) :
    runFnI (E := E) (O_laws_szMachine_rrrrr N) (noIt) sl_laws_szMachine_rrrrr J_laws_szMachine_rrrrr Try.f6 [(AV.agg [(SV.int IntKind.i64 n), (SV.slc 0 none b), (SV.int IntKind.i64 n1), (SV.slc 1 none b1), (SV.slc 2 none b2), (SV.str s), (SV.int IntKind.i64 n2), (SV.int IntKind.i64 n3), (SV.int IntKind.i64 n4), (SV.slc 3 none b3), (SV.slc 4 none b4), (SV.int IntKind.i64 n5)]), (AV.sc (SV.int IntKind.i64 n6))] [(some (HE.mk true (HB.rows (B.i64 l)))), (some (HE.mk true (HB.rows (B.i64 l1)))), (some (HE.mk true (HB.rows (B.i64 l2)))), (some (HE.mk true (HB.rows (B.lPortValue l3)))), (some (HE.mk true (HB.rows (B.lPortValue l4))))] K =
      g_laws_szMachine_rrrrr N n b n1 b1 b2 s n2 n3 n4 b3 b4 n5 n6 l l1 l2 l3 l4 (fun n12 => K (AV.sc (SV.int IntKind.i64 n12)) [(some (HE.mk true (HB.rows (B.i64 l)))), (some (HE.mk true (HB.rows (B.i64 l1)))), (some (HE.mk true (HB.rows (B.i64 l2)))), (some (HE.mk true (HB.rows (B.lPortValue l3)))), (some (HE.mk true (HB.rows (B.lPortValue l4))))]) := by kernel_rfl
noncomputable def o_laws_szMachine_rrrrr (N : Nat) {R : Type} (args : List AV) (H : Hp E) (K : AV → Hp E → Option R) : Option R :=
 match args, H with
 | [(AV.agg [(SV.int IntKind.i64 n), (SV.slc 0 none b), (SV.int IntKind.i64 n1), (SV.slc 1 none b1), (SV.slc 2 none b2), (SV.str s), (SV.int IntKind.i64 n2), (SV.int IntKind.i64 n3), (SV.int IntKind.i64 n4), (SV.slc 3 none b3), (SV.slc 4 none b4), (SV.int IntKind.i64 n5)]), (AV.sc (SV.int IntKind.i64 n6))], [(some (HE.mk true (HB.rows (B.i64 l)))), (some (HE.mk true (HB.rows (B.i64 l1)))), (some (HE.mk true (HB.rows (B.i64 l2)))), (some (HE.mk true (HB.rows (B.lPortValue l3)))), (some (HE.mk true (HB.rows (B.lPortValue l4))))] => g_laws_szMachine_rrrrr N n b n1 b1 b2 s n2 n3 n4 b3 b4 n5 n6 l l1 l2 l3 l4 (fun n12 => K (AV.sc (SV.int IntKind.i64 n12)) [(some (HE.mk true (HB.rows (B.i64 l)))), (some (HE.mk true (HB.rows (B.i64 l1)))), (some (HE.mk true (HB.rows (B.i64 l2)))), (some (HE.mk true (HB.rows (B.lPortValue l3)))), (some (HE.mk true (HB.rows (B.lPortValue l4))))])
 | _, _ => none
theorem o_laws_szMachine_rrrrr_ok (N : Nat) : FnOk E 6 (o_laws_szMachine_rrrrr N) := by
  intro R args H K r h
  unfold o_laws_szMachine_rrrrr at h
  dsimp only at h
  split at h
  · exact fnB_ok (ids := []) (top := []) ok (O_laws_szMachine_rrrrr_ok N) (jn_ok _ _ _) Try.func6 (by kernel_rfl) (IT := noIt) (sl := sl_laws_szMachine_rrrrr) (J := J_laws_szMachine_rrrrr) (K := K) (H := [(some (HE.mk true (HB.rows (B.i64 _)))), (some (HE.mk true (HB.rows (B.i64 _)))), (some (HE.mk true (HB.rows (B.i64 _)))), (some (HE.mk true (HB.rows (B.lPortValue _)))), (some (HE.mk true (HB.rows (B.lPortValue _))))]) (noIt_ok) (by kernel_rfl) rfl ((e_laws_szMachine_rrrrr N _ _ _ _ _ _ _ _ _ _ _ _ _ _ _ _ _ _ K).trans h)
  · cases h
/-! ### loop.example/g00038/laws.toInt64S -/
abbrev sl_laws_toInt64S_r : SlotT := [(0, ([0, 3, 4], [3]))]
abbrev J_laws_toInt64S_r : JT := jn [] [] []
noncomputable def O_laws_toInt64S_r (N : Nat) : Orc E := noFn
theorem O_laws_toInt64S_r_ok (N : Nat) : OrcOk (O_laws_toInt64S_r N) := noFn_ok
noncomputable def s_laws_toInt64S_r_0 (N : Nat) {R : Type} (b1 : Bool) (b2 : Bool) (l1 : List Int) (n : Int) (l2 : List Int) (ag : Int → (List Int) → Option R)  (kN : (List Int) → Option R) : Option R :=
 (cond (decide ((n < (((List.length l1) : Nat) : Int))))
 (cond ((decide (((0 : Int) ≤ n))) && (decide ((n < (((List.length l1) : Nat) : Int)))))
 (elemK l1 (Int.toNat n) fun x =>
 (cond ((decide (((0 : Int) ≤ n))) && (decide ((n < (((List.length l2) : Nat) : Int)))))
 (elemK l2 (Int.toNat n) fun x1 =>
 (cond (Nat.blt (Int.toNat n) (List.length l2))
 (ag (IntKind.wrap IntKind.i64 (n + (1 : Int))) (nset l2 (Int.toNat n) x))
 none))
 none))
 none)
 (kN l2))
noncomputable def l_laws_toInt64S_r_0 (N : Nat) {R : Type} (b1 : Bool) (b2 : Bool) (l1 : List Int) (kN : (List Int) → Option R) : Nat → Int → (List Int) → Option R
 | 0, _, _ => none
 | f + 1, n, l2 => s_laws_toInt64S_r_0 N b1 b2 l1 n l2 (fun n l2 => l_laws_toInt64S_r_0 N b1 b2 l1 kN f n l2)  kN
noncomputable def c_laws_toInt64S_r_0 (N : Nat) {R : Type} (b1 : Bool) (b2 : Bool) (l1 : List Int) (n : Int) (l2 : List Int) (kN : (List Int) → Option R) : Option R := l_laws_toInt64S_r_0 N b1 b2 l1 kN N n l2
theorem se_laws_toInt64S_r_0 (N : Nat) {R : Type} (b1 : Bool) (b2 : Bool) (l1 : List Int) (n : Int) (l2 : List Int) (AG : List (Option AV) → Hp E → Option R) (KL : Ex → List (Option AV) → Hp E → Option R) :
    iterStep (E := E) (O_laws_toInt64S_r N) (fun {R} => LI (noIt) 1 22 sl_laws_toInt64S_r (R := R)) J_laws_toInt64S_r 1 22 0 [0, 3, 4] [3] (body Try.f33 0) AG KL [(some (AV.sc (SV.slc 0 none b1))), (some (AV.sc (SV.slc 1 none b2))), (some (AV.sc (SV.int IntKind.i64 n)))] [(some (HE.mk true (HB.rows (B.i64 l1)))), (some (HE.mk false (HB.rows (B.i64 l2))))] =
      s_laws_toInt64S_r_0 N b1 b2 l1 n l2 (fun n l2 => AG [(some (AV.sc (SV.slc 0 none b1))), (some (AV.sc (SV.slc 1 none b2))), (some (AV.sc (SV.int IntKind.i64 n)))] [(some (HE.mk true (HB.rows (B.i64 l1)))), (some (HE.mk false (HB.rows (B.i64 l2))))])  (fun l5 => KL Ex.normal [(some (AV.sc (SV.slc 1 none b2)))] [(some (HE.mk true (HB.rows (B.i64 l1)))), (some (HE.mk false (HB.rows (B.i64 l5))))]) := by kernel_rfl
theorem le_laws_toInt64S_r_0 (N : Nat) {R : Type} (b1 : Bool) (b2 : Bool) (l1 : List Int) (KL : Ex → List (Option AV) → Hp E → Option R) : ∀ (f : Nat), ∀ (n : Int) (l2 : List Int), iterK (E := E) (O_laws_toInt64S_r N) (fun {R} => LI (noIt) 1 22 sl_laws_toInt64S_r (R := R)) J_laws_toInt64S_r 1 22 0 [0, 3, 4] [3] (body Try.f33 0) f [(some (AV.sc (SV.slc 0 none b1))), (some (AV.sc (SV.slc 1 none b2))), (some (AV.sc (SV.int IntKind.i64 n)))] [(some (HE.mk true (HB.rows (B.i64 l1)))), (some (HE.mk false (HB.rows (B.i64 l2))))] KL = l_laws_toInt64S_r_0 N b1 b2 l1 (fun l5 => KL Ex.normal [(some (AV.sc (SV.slc 1 none b2)))] [(some (HE.mk true (HB.rows (B.i64 l1)))), (some (HE.mk false (HB.rows (B.i64 l5))))]) f n l2 := by
  intro f
  induction f with
  | zero => intros; rfl
  | succ f ih =>
    intro n l2
    rw [iterK_succ, se_laws_toInt64S_r_0]
    exact (congrArg (fun z0 => s_laws_toInt64S_r_0 N b1 b2 l1 n l2 z0 (fun l5 => KL Ex.normal [(some (AV.sc (SV.slc 1 none b2)))] [(some (HE.mk true (HB.rows (B.i64 l1)))), (some (HE.mk false (HB.rows (B.i64 l5))))])) (funext fun n => funext fun l2 => ih n l2))
noncomputable def i_laws_toInt64S_r_0 (N : Nat) {R : Type} (vs : List (Option AV)) (H : Hp E) (KL : Ex → List (Option AV) → Hp E → Option R) : Option R :=
 match vs, H with
 | [(some (AV.sc (SV.slc 0 none b1))), (some (AV.sc (SV.slc 1 none b2))), (some (AV.sc (SV.int IntKind.i64 n)))], [(some (HE.mk true (HB.rows (B.i64 l1)))), (some (HE.mk false (HB.rows (B.i64 l2))))] => c_laws_toInt64S_r_0 N b1 b2 l1 n l2 (fun l6 => KL Ex.normal [(some (AV.sc (SV.slc 1 none b2)))] [(some (HE.mk true (HB.rows (B.i64 l1)))), (some (HE.mk false (HB.rows (B.i64 l6))))])
 | _, _ => none
noncomputable def IT_laws_toInt64S_r_0 (N : Nat) : Its E := addIt 0 (i_laws_toInt64S_r_0 N) (noIt)
theorem IT_laws_toInt64S_r_0_ok (N : Nat) : ItOk (IT_laws_toInt64S_r_0 N) 1 22 sl_laws_toInt64S_r (lsB Try.f33 [0]) :=
  addItB_ok (inner := []) ok (O_laws_toInt64S_r_ok N) (jn_ok _ _ _) (noIt_ok) rfl (by kernel_rfl) rfl fun vs H KL r h => by
    unfold i_laws_toInt64S_r_0 at h
    split at h
    · exact ⟨_, (le_laws_toInt64S_r_0 N _ _ _ KL N _ _).trans h⟩
    · cases h
noncomputable def g_laws_toInt64S_r (N : Nat) {R : Type} (b : Bool) (l : List Int) (k : (List Int) → Option R) : Option R :=
 (cond (((decide (((((List.length l) : Nat) : Int) = (((List.length l) : Nat) : Int)))) && true) && (Go.Eng.roomOk (Int.toNat (((List.length l) : Nat) : Int)) 8))
 (c_laws_toInt64S_r_0 N b false l (0 : Int) (List.replicate (Int.toNat (((List.length l) : Nat) : Int)) (0 : Int)) fun l3 =>
 (k l3))
 none)
theorem e_laws_toInt64S_r (N : Nat) {R : Type} (b : Bool) (l : List Int) (K : AV → Hp E → Option R) :
    runFnI (E := E) (O_laws_toInt64S_r N) (IT_laws_toInt64S_r_0 N) sl_laws_toInt64S_r J_laws_toInt64S_r Try.f33 [(AV.sc (SV.slc 0 none b))] [(some (HE.mk true (HB.rows (B.i64 l))))] K =
      g_laws_toInt64S_r N b l (fun l4 => K (AV.sc (SV.slc 1 none false)) [(some (HE.mk true (HB.rows (B.i64 l)))), (some (HE.mk false (HB.rows (B.i64 l4))))]) := by kernel_rfl
noncomputable def o_laws_toInt64S_r (N : Nat) {R : Type} (args : List AV) (H : Hp E) (K : AV → Hp E → Option R) : Option R :=
 match args, H with
 | [(AV.sc (SV.slc 0 none b))], [(some (HE.mk true (HB.rows (B.i64 l))))] => g_laws_toInt64S_r N b l (fun l4 => K (AV.sc (SV.slc 1 none false)) [(some (HE.mk true (HB.rows (B.i64 l)))), (some (HE.mk false (HB.rows (B.i64 l4))))])
 | _, _ => none
theorem o_laws_toInt64S_r_ok (N : Nat) : FnOk E 33 (o_laws_toInt64S_r N) := by
  intro R args H K r h
  unfold o_laws_toInt64S_r at h
  dsimp only at h
  split at h
  · exact fnB_ok (ids := [0]) (top := [0]) ok (O_laws_toInt64S_r_ok N) (jn_ok _ _ _) Try.func33 (by kernel_rfl) (IT := IT_laws_toInt64S_r_0 N) (sl := sl_laws_toInt64S_r) (J := J_laws_toInt64S_r) (K := K) (H := [(some (HE.mk true (HB.rows (B.i64 _))))]) (IT_laws_toInt64S_r_0_ok N) (by kernel_rfl) rfl ((e_laws_toInt64S_r N _ _ K).trans h)
  · cases h
/-! ### loop.example/g00038/laws.toPortValue -/
abbrev sl_laws_toPortValue : SlotT := []
abbrev J_laws_toPortValue : JT := jn [] [] []
noncomputable def O_laws_toPortValue (N : Nat) : Orc E := noFn
theorem O_laws_toPortValue_ok (N : Nat) : OrcOk (O_laws_toPortValue N) := noFn_ok
noncomputable def g_laws_toPortValue (N : Nat) {R : Type} (n : Int) (n1 : Int) (k : Option R) : Option R :=
 k
theorem e_laws_toPortValue (N : Nat) {R : Type} (n : Int) (n1 : Int) (K : AV → Hp E → Option R) :
    runFnI (E := E) (O_laws_toPortValue N) (noIt) sl_laws_toPortValue J_laws_toPortValue Try.f74 [(AV.agg [(SV.int IntKind.i64 n), (SV.int IntKind.i64 n1)])] [] K =
      g_laws_toPortValue N n n1 (K (AV.agg [(SV.int IntKind.i64 n), (SV.int IntKind.i64 n1)]) []) := by kernel_rfl
noncomputable def o_laws_toPortValue (N : Nat) {R : Type} (args : List AV) (H : Hp E) (K : AV → Hp E → Option R) : Option R :=
 match args, H with
 | [(AV.agg [(SV.int IntKind.i64 n), (SV.int IntKind.i64 n1)])], [] => g_laws_toPortValue N n n1 (K (AV.agg [(SV.int IntKind.i64 n), (SV.int IntKind.i64 n1)]) [])
 | _, _ => none
theorem o_laws_toPortValue_ok (N : Nat) : FnOk E 74 (o_laws_toPortValue N) := by
  intro R args H K r h
  unfold o_laws_toPortValue at h
  dsimp only at h
  split at h
  · exact fnB_ok (ids := []) (top := []) ok (O_laws_toPortValue_ok N) (jn_ok _ _ _) Try.func74 (by kernel_rfl) (IT := noIt) (sl := sl_laws_toPortValue) (J := J_laws_toPortValue) (K := K) (H := []) (noIt_ok) (by kernel_rfl) rfl ((e_laws_toPortValue N _ _ K).trans h)
  · cases h
/-! ### loop.example/g00038/laws.toPortValueS -/
abbrev sl_laws_toPortValueS_r : SlotT := [(0, ([0, 3, 4], [3]))]
abbrev J_laws_toPortValueS_r : JT := jn [] [] []
noncomputable def O_laws_toPortValueS_r (N : Nat) : Orc E := addFn 74 (o_laws_toPortValue N) (noFn)
theorem O_laws_toPortValueS_r_ok (N : Nat) : OrcOk (O_laws_toPortValueS_r N) := addFn_ok (o_laws_toPortValue_ok N) (noFn_ok)
noncomputable def s_laws_toPortValueS_r_0 (N : Nat) {R : Type} (b1 : Bool) (b2 : Bool) (l1 : List PortValue) (n : Int) (l2 : List PortValue) (ag : Int → (List PortValue) → Option R)  (kN : (List PortValue) → Option R) : Option R :=
 (cond (decide ((n < (((List.length l1) : Nat) : Int))))
 (cond ((decide (((0 : Int) ≤ n))) && (decide ((n < (((List.length l1) : Nat) : Int)))))
 (elemK l1 (Int.toNat n) fun x =>
 (g_laws_toPortValue N (PortValue.fPort x) (PortValue.fValue x) 
 (cond ((decide (((0 : Int) ≤ n))) && (decide ((n < (((List.length l2) : Nat) : Int)))))
 (elemK l2 (Int.toNat n) fun x1 =>
 (cond (Nat.blt (Int.toNat n) (List.length l2))
 (ag (IntKind.wrap IntKind.i64 (n + (1 : Int))) (nset l2 (Int.toNat n) (PortValue.mk (PortValue.fPort x) (PortValue.fValue x))))
 none))
 none)))
 none)
 (kN l2))
noncomputable def l_laws_toPortValueS_r_0 (N : Nat) {R : Type} (b1 : Bool) (b2 : Bool) (l1 : List PortValue) (kN : (List PortValue) → Option R) : Nat → Int → (List PortValue) → Option R
 | 0, _, _ => none
 | f + 1, n, l2 => s_laws_toPortValueS_r_0 N b1 b2 l1 n l2 (fun n l2 => l_laws_toPortValueS_r_0 N b1 b2 l1 kN f n l2)  kN
noncomputable def c_laws_toPortValueS_r_0 (N : Nat) {R : Type} (b1 : Bool) (b2 : Bool) (l1 : List PortValue) (n : Int) (l2 : List PortValue) (kN : (List PortValue) → Option R) : Option R := l_laws_toPortValueS_r_0 N b1 b2 l1 kN N n l2
theorem se_laws_toPortValueS_r_0 (N : Nat) {R : Type} (b1 : Bool) (b2 : Bool) (l1 : List PortValue) (n : Int) (l2 : List PortValue) (AG : List (Option AV) → Hp E → Option R) (KL : Ex → List (Option AV) → Hp E → Option R) :
    iterStep (E := E) (O_laws_toPortValueS_r N) (fun {R} => LI (noIt) 1 23 sl_laws_toPortValueS_r (R := R)) J_laws_toPortValueS_r 1 23 0 [0, 3, 4] [3] (body Try.f34 0) AG KL [(some (AV.sc (SV.slc 0 none b1))), (some (AV.sc (SV.slc 1 none b2))), (some (AV.sc (SV.int IntKind.i64 n)))] [(some (HE.mk true (HB.rows (B.lPortValue l1)))), (some (HE.mk false (HB.rows (B.iPortValue l2))))] =
      s_laws_toPortValueS_r_0 N b1 b2 l1 n l2 (fun n l2 => AG [(some (AV.sc (SV.slc 0 none b1))), (some (AV.sc (SV.slc 1 none b2))), (some (AV.sc (SV.int IntKind.i64 n)))] [(some (HE.mk true (HB.rows (B.lPortValue l1)))), (some (HE.mk false (HB.rows (B.iPortValue l2))))])  (fun l5 => KL Ex.normal [(some (AV.sc (SV.slc 1 none b2)))] [(some (HE.mk true (HB.rows (B.lPortValue l1)))), (some (HE.mk false (HB.rows (B.iPortValue l5))))]) := by kernel_rfl
theorem le_laws_toPortValueS_r_0 (N : Nat) {R : Type} (b1 : Bool) (b2 : Bool) (l1 : List PortValue) (KL : Ex → List (Option AV) → Hp E → Option R) : ∀ (f : Nat), ∀ (n : Int) (l2 : List PortValue), iterK (E := E) (O_laws_toPortValueS_r N) (fun {R} => LI (noIt) 1 23 sl_laws_toPortValueS_r (R := R)) J_laws_toPortValueS_r 1 23 0 [0, 3, 4] [3] (body Try.f34 0) f [(some (AV.sc (SV.slc 0 none b1))), (some (AV.sc (SV.slc 1 none b2))), (some (AV.sc (SV.int IntKind.i64 n)))] [(some (HE.mk true (HB.rows (B.lPortValue l1)))), (some (HE.mk false (HB.rows (B.iPortValue l2))))] KL = l_laws_toPortValueS_r_0 N b1 b2 l1 (fun l5 => KL Ex.normal [(some (AV.sc (SV.slc 1 none b2)))] [(some (HE.mk true (HB.rows (B.lPortValue l1)))), (some (HE.mk false (HB.rows (B.iPortValue l5))))]) f n l2 := by
  intro f
  induction f with
  | zero => intros; rfl
  | succ f ih =>
    intro n l2
    rw [iterK_succ, se_laws_toPortValueS_r_0]
    exact (congrArg (fun z0 => s_laws_toPortValueS_r_0 N b1 b2 l1 n l2 z0 (fun l5 => KL Ex.normal [(some (AV.sc (SV.slc 1 none b2)))] [(some (HE.mk true (HB.rows (B.lPortValue l1)))), (some (HE.mk false (HB.rows (B.iPortValue l5))))])) (funext fun n => funext fun l2 => ih n l2))
noncomputable def i_laws_toPortValueS_r_0 (N : Nat) {R : Type} (vs : List (Option AV)) (H : Hp E) (KL : Ex → List (Option AV) → Hp E → Option R) : Option R :=
 match vs, H with
 | [(some (AV.sc (SV.slc 0 none b1))), (some (AV.sc (SV.slc 1 none b2))), (some (AV.sc (SV.int IntKind.i64 n)))], [(some (HE.mk true (HB.rows (B.lPortValue l1)))), (some (HE.mk false (HB.rows (B.iPortValue l2))))] => c_laws_toPortValueS_r_0 N b1 b2 l1 n l2 (fun l6 => KL Ex.normal [(some (AV.sc (SV.slc 1 none b2)))] [(some (HE.mk true (HB.rows (B.lPortValue l1)))), (some (HE.mk false (HB.rows (B.iPortValue l6))))])
 | _, _ => none
noncomputable def IT_laws_toPortValueS_r_0 (N : Nat) : Its E := addIt 0 (i_laws_toPortValueS_r_0 N) (noIt)
theorem IT_laws_toPortValueS_r_0_ok (N : Nat) : ItOk (IT_laws_toPortValueS_r_0 N) 1 23 sl_laws_toPortValueS_r (lsB Try.f34 [0]) :=
  addItB_ok (inner := []) ok (O_laws_toPortValueS_r_ok N) (jn_ok _ _ _) (noIt_ok) rfl (by kernel_rfl) rfl fun vs H KL r h => by
    unfold i_laws_toPortValueS_r_0 at h
    split at h
    · exact ⟨_, (le_laws_toPortValueS_r_0 N _ _ _ KL N _ _).trans h⟩
    · cases h
noncomputable def g_laws_toPortValueS_r (N : Nat) {R : Type} (b : Bool) (l : List PortValue) (k : (List PortValue) → Option R) : Option R :=
 (cond (((decide (((((List.length l) : Nat) : Int) = (((List.length l) : Nat) : Int)))) && true) && (Go.Eng.roomOk (Int.toNat (((List.length l) : Nat) : Int)) 16))
 (c_laws_toPortValueS_r_0 N b false l (0 : Int) (List.replicate (Int.toNat (((List.length l) : Nat) : Int)) (PortValue.mk (0 : Int) (0 : Int))) fun l3 =>
 (k l3))
 none)
theorem e_laws_toPortValueS_r (N : Nat) {R : Type} (b : Bool) (l : List PortValue) (K : AV → Hp E → Option R) :
    runFnI (E := E) (O_laws_toPortValueS_r N) (IT_laws_toPortValueS_r_0 N) sl_laws_toPortValueS_r J_laws_toPortValueS_r Try.f34 [(AV.sc (SV.slc 0 none b))] [(some (HE.mk true (HB.rows (B.lPortValue l))))] K =
      g_laws_toPortValueS_r N b l (fun l4 => K (AV.sc (SV.slc 1 none false)) [(some (HE.mk true (HB.rows (B.lPortValue l)))), (some (HE.mk false (HB.rows (B.iPortValue l4))))]) := by kernel_rfl
noncomputable def o_laws_toPortValueS_r (N : Nat) {R : Type} (args : List AV) (H : Hp E) (K : AV → Hp E → Option R) : Option R :=
 match args, H with
 | [(AV.sc (SV.slc 0 none b))], [(some (HE.mk true (HB.rows (B.lPortValue l))))] => g_laws_toPortValueS_r N b l (fun l4 => K (AV.sc (SV.slc 1 none false)) [(some (HE.mk true (HB.rows (B.lPortValue l)))), (some (HE.mk false (HB.rows (B.iPortValue l4))))])
 | _, _ => none
theorem o_laws_toPortValueS_r_ok (N : Nat) : FnOk E 34 (o_laws_toPortValueS_r N) := by
  intro R args H K r h
  unfold o_laws_toPortValueS_r at h
  dsimp only at h
  split at h
  · exact fnB_ok (ids := [0]) (top := [0]) ok (O_laws_toPortValueS_r_ok N) (jn_ok _ _ _) Try.func34 (by kernel_rfl) (IT := IT_laws_toPortValueS_r_0 N) (sl := sl_laws_toPortValueS_r) (J := J_laws_toPortValueS_r) (K := K) (H := [(some (HE.mk true (HB.rows (B.lPortValue _))))]) (IT_laws_toPortValueS_r_0_ok N) (by kernel_rfl) rfl ((e_laws_toPortValueS_r N _ _ K).trans h)
  · cases h
/-! ### loop.example/g00038/laws.toMachine -/
abbrev sl_laws_toMachine_rrrrr : SlotT := []
abbrev J_laws_toMachine_rrrrr : JT := jn [] [] []
noncomputable def O_laws_toMachine_rrrrr (N : Nat) : Orc E := addFn 34 (o_laws_toPortValueS_r N) (addFn 33 (o_laws_toInt64S_r N) (noFn))
noncomputable def pa_laws_toMachine_rrrrr__o_laws_toPortValueS_r (N : Nat) (G_laws_toPortValueS_r : ∀ {R : Type} (b : Bool) (l : List PortValue) (k : (List PortValue) → Option R), Option R) {R : Type} (args : List AV) (H : Hp E) (K : AV → Hp E → Option R) : Option R :=
 match args, H with
 | [(AV.sc (SV.slc 0 none b))], [(some (HE.mk true (HB.rows (B.lPortValue l))))] => G_laws_toPortValueS_r b l (fun l4 => K (AV.sc (SV.slc 1 none false)) [(some (HE.mk true (HB.rows (B.lPortValue l)))), (some (HE.mk false (HB.rows (B.iPortValue l4))))])
 | _, _ => none
noncomputable def pa_laws_toMachine_rrrrr__o_laws_toInt64S_r (N : Nat) (G_laws_toInt64S_r : ∀ {R : Type} (b : Bool) (l : List Int) (k : (List Int) → Option R), Option R) {R : Type} (args : List AV) (H : Hp E) (K : AV → Hp E → Option R) : Option R :=
 match args, H with
 | [(AV.sc (SV.slc 0 none b))], [(some (HE.mk true (HB.rows (B.i64 l))))] => G_laws_toInt64S_r b l (fun l4 => K (AV.sc (SV.slc 1 none false)) [(some (HE.mk true (HB.rows (B.i64 l)))), (some (HE.mk false (HB.rows (B.i64 l4))))])
 | _, _ => none
noncomputable def OA_laws_toMachine_rrrrr (N : Nat) (G_laws_toPortValueS_r : ∀ {R : Type} (b : Bool) (l : List PortValue) (k : (List PortValue) → Option R), Option R) (G_laws_toInt64S_r : ∀ {R : Type} (b : Bool) (l : List Int) (k : (List Int) → Option R), Option R) : Orc E := addFn 34 (pa_laws_toMachine_rrrrr__o_laws_toPortValueS_r N G_laws_toPortValueS_r) (addFn 33 (pa_laws_toMachine_rrrrr__o_laws_toInt64S_r N G_laws_toInt64S_r) (noFn))
theorem O_laws_toMachine_rrrrr_ok (N : Nat) : OrcOk (O_laws_toMachine_rrrrr N) := addFn_ok (o_laws_toPortValueS_r_ok N) (addFn_ok (o_laws_toInt64S_r_ok N) (noFn_ok))
noncomputable def g_laws_toMachine_rrrrr (N : Nat) {R : Type} (n : Int) (b : Bool) (n1 : Int) (b1 : Bool) (b2 : Bool) (s : ByteArray) (n2 : Int) (n3 : Int) (n4 : Int) (b3 : Bool) (b4 : Bool) (n5 : Int) (l : List Int) (l1 : List Int) (l2 : List Int) (l3 : List PortValue) (l4 : List PortValue) (k : (List Int) → (List Int) → (List Int) → (List PortValue) → (List PortValue) → Option R) : Option R :=
 (g_laws_toInt64S_r N b l fun l5 =>
 (g_laws_toInt64S_r N b1 l1 fun l6 =>
 (g_laws_toInt64S_r N b2 l2 fun l7 =>
 (g_laws_toPortValueS_r N b3 l3 fun l8 =>
 (g_laws_toPortValueS_r N b4 l4 fun l9 =>
 (k l5 l6 l7 l8 l9))))))
noncomputable def ga_g_laws_toMachine_rrrrr (N : Nat) (G_laws_toPortValueS_r : ∀ {R : Type} (b : Bool) (l : List PortValue) (k : (List PortValue) → Option R), Option R) (G_laws_toInt64S_r : ∀ {R : Type} (b : Bool) (l : List Int) (k : (List Int) → Option R), Option R) {R : Type} (n : Int) (b : Bool) (n1 : Int) (b1 : Bool) (b2 : Bool) (s : ByteArray) (n2 : Int) (n3 : Int) (n4 : Int) (b3 : Bool) (b4 : Bool) (n5 : Int) (l : List Int) (l1 : List Int) (l2 : List Int) (l3 : List PortValue) (l4 : List PortValue) (k : (List Int) → (List Int) → (List Int) → (List PortValue) → (List PortValue) → Option R) : Option R :=
 (G_laws_toInt64S_r b l fun l5 =>
 (G_laws_toInt64S_r b1 l1 fun l6 =>
 (G_laws_toInt64S_r b2 l2 fun l7 =>
 (G_laws_toPortValueS_r b3 l3 fun l8 =>
 (G_laws_toPortValueS_r b4 l4 fun l9 =>
 (k l5 l6 l7 l8 l9))))))
theorem ea_e_laws_toMachine_rrrrr (N : Nat) (G_laws_toPortValueS_r : ∀ {R : Type} (b : Bool) (l : List PortValue) (k : (List PortValue) → Option R), Option R) (G_laws_toInt64S_r : ∀ {R : Type} (b : Bool) (l : List Int) (k : (List Int) → Option R), Option R) {R : Type} (n : Int) (b : Bool) (n1 : Int) (b1 : Bool) (b2 : Bool) (s : ByteArray) (n2 : Int) (n3 : Int) (n4 : Int) (b3 : Bool) (b4 : Bool) (n5 : Int) (l : List Int) (l1 : List Int) (l2 : List Int) (l3 : List PortValue) (l4 : List PortValue) (K : AV → Hp E → Option R) :
    runFnI (E := E) (OA_laws_toMachine_rrrrr N G_laws_toPortValueS_r G_laws_toInt64S_r) (noIt) sl_laws_toMachine_rrrrr J_laws_toMachine_rrrrr Try.f8 [(AV.agg [(SV.int IntKind.i64 n), (SV.slc 0 none b), (SV.int IntKind.i64 n1), (SV.slc 1 none b1), (SV.slc 2 none b2), (SV.str s), (SV.int IntKind.i64 n2), (SV.int IntKind.i64 n3), (SV.int IntKind.i64 n4), (SV.slc 3 none b3), (SV.slc 4 none b4), (SV.int IntKind.i64 n5)])] [(some (HE.mk true (HB.rows (B.i64 l)))), (some (HE.mk true (HB.rows (B.i64 l1)))), (some (HE.mk true (HB.rows (B.i64 l2)))), (some (HE.mk true (HB.rows (B.lPortValue l3)))), (some (HE.mk true (HB.rows (B.lPortValue l4))))] K =
      ga_g_laws_toMachine_rrrrr N G_laws_toPortValueS_r G_laws_toInt64S_r n b n1 b1 b2 s n2 n3 n4 b3 b4 n5 l l1 l2 l3 l4 (fun l10 l11 l12 l13 l14 => K (AV.agg [(SV.int IntKind.i64 n), (SV.slc 5 none false), (SV.int IntKind.i64 n1), (SV.slc 6 none false), (SV.slc 7 none false), (SV.str s), (SV.int IntKind.i64 n2), (SV.int IntKind.i64 n3), (SV.int IntKind.i64 n4), (SV.slc 8 none false), (SV.slc 9 none false), (SV.int IntKind.i64 n5)]) [(some (HE.mk true (HB.rows (B.i64 l)))), (some (HE.mk true (HB.rows (B.i64 l1)))), (some (HE.mk true (HB.rows (B.i64 l2)))), (some (HE.mk true (HB.rows (B.lPortValue l3)))), (some (HE.mk true (HB.rows (B.lPortValue l4)))), (some (HE.mk false (HB.rows (B.i64 l10)))), (some (HE.mk false (HB.rows (B.i64 l11)))), (some (HE.mk false (HB.rows (B.i64 l12)))), (some (HE.mk false (HB.rows (B.iPortValue l13)))), (some (HE.mk false (HB.rows (B.iPortValue l14))))]) := by kernel_rfl
theorem e_laws_toMachine_rrrrr (N : Nat) {R : Type} (n : Int) (b : Bool) (n1 : Int) (b1 : Bool) (b2 : Bool) (s : ByteArray) (n2 : Int) (n3 : Int) (n4 : Int) (b3 : Bool) (b4 : Bool) (n5 : Int) (l : List Int) (l1 : List Int) (l2 : List Int) (l3 : List PortValue) (l4 : List PortValue) (K : AV → Hp E → Option R) :
    runFnI (E := E) (O_laws_toMachine_rrrrr N) (noIt) sl_laws_toMachine_rrrrr J_laws_toMachine_rrrrr Try.f8 [(AV.agg [(SV.int IntKind.i64 n), (SV.slc 0 none b), (SV.int IntKind.i64 n1), (SV.slc 1 none b1), (SV.slc 2 none b2), (SV.str s), (SV.int IntKind.i64 n2), (SV.int IntKind.i64 n3), (SV.int IntKind.i64 n4), (SV.slc 3 none b3), (SV.slc 4 none b4), (SV.int IntKind.i64 n5)])] [(some (HE.mk true (HB.rows (B.i64 l)))), (some (HE.mk true (HB.rows (B.i64 l1)))), (some (HE.mk true (HB.rows (B.i64 l2)))), (some (HE.mk true (HB.rows (B.lPortValue l3)))), (some (HE.mk true (HB.rows (B.lPortValue l4))))] K =
      g_laws_toMachine_rrrrr N n b n1 b1 b2 s n2 n3 n4 b3 b4 n5 l l1 l2 l3 l4 (fun l10 l11 l12 l13 l14 => K (AV.agg [(SV.int IntKind.i64 n), (SV.slc 5 none false), (SV.int IntKind.i64 n1), (SV.slc 6 none false), (SV.slc 7 none false), (SV.str s), (SV.int IntKind.i64 n2), (SV.int IntKind.i64 n3), (SV.int IntKind.i64 n4), (SV.slc 8 none false), (SV.slc 9 none false), (SV.int IntKind.i64 n5)]) [(some (HE.mk true (HB.rows (B.i64 l)))), (some (HE.mk true (HB.rows (B.i64 l1)))), (some (HE.mk true (HB.rows (B.i64 l2)))), (some (HE.mk true (HB.rows (B.lPortValue l3)))), (some (HE.mk true (HB.rows (B.lPortValue l4)))), (some (HE.mk false (HB.rows (B.i64 l10)))), (some (HE.mk false (HB.rows (B.i64 l11)))), (some (HE.mk false (HB.rows (B.i64 l12)))), (some (HE.mk false (HB.rows (B.iPortValue l13)))), (some (HE.mk false (HB.rows (B.iPortValue l14))))]) := castPr (by kernel_rfl) (ea_e_laws_toMachine_rrrrr N (g_laws_toPortValueS_r N) (g_laws_toInt64S_r N) n b n1 b1 b2 s n2 n3 n4 b3 b4 n5 l l1 l2 l3 l4 K)
noncomputable def o_laws_toMachine_rrrrr (N : Nat) {R : Type} (args : List AV) (H : Hp E) (K : AV → Hp E → Option R) : Option R :=
 match args, H with
 | [(AV.agg [(SV.int IntKind.i64 n), (SV.slc 0 none b), (SV.int IntKind.i64 n1), (SV.slc 1 none b1), (SV.slc 2 none b2), (SV.str s), (SV.int IntKind.i64 n2), (SV.int IntKind.i64 n3), (SV.int IntKind.i64 n4), (SV.slc 3 none b3), (SV.slc 4 none b4), (SV.int IntKind.i64 n5)])], [(some (HE.mk true (HB.rows (B.i64 l)))), (some (HE.mk true (HB.rows (B.i64 l1)))), (some (HE.mk true (HB.rows (B.i64 l2)))), (some (HE.mk true (HB.rows (B.lPortValue l3)))), (some (HE.mk true (HB.rows (B.lPortValue l4))))] => g_laws_toMachine_rrrrr N n b n1 b1 b2 s n2 n3 n4 b3 b4 n5 l l1 l2 l3 l4 (fun l10 l11 l12 l13 l14 => K (AV.agg [(SV.int IntKind.i64 n), (SV.slc 5 none false), (SV.int IntKind.i64 n1), (SV.slc 6 none false), (SV.slc 7 none false), (SV.str s), (SV.int IntKind.i64 n2), (SV.int IntKind.i64 n3), (SV.int IntKind.i64 n4), (SV.slc 8 none false), (SV.slc 9 none false), (SV.int IntKind.i64 n5)]) [(some (HE.mk true (HB.rows (B.i64 l)))), (some (HE.mk true (HB.rows (B.i64 l1)))), (some (HE.mk true (HB.rows (B.i64 l2)))), (some (HE.mk true (HB.rows (B.lPortValue l3)))), (some (HE.mk true (HB.rows (B.lPortValue l4)))), (some (HE.mk false (HB.rows (B.i64 l10)))), (some (HE.mk false (HB.rows (B.i64 l11)))), (some (HE.mk false (HB.rows (B.i64 l12)))), (some (HE.mk false (HB.rows (B.iPortValue l13)))), (some (HE.mk false (HB.rows (B.iPortValue l14))))])
 | _, _ => none
theorem o_laws_toMachine_rrrrr_ok (N : Nat) : FnOk E 8 (o_laws_toMachine_rrrrr N) := by
  intro R args H K r h
  unfold o_laws_toMachine_rrrrr at h
  dsimp only at h
  split at h
  · exact fnB_ok (ids := []) (top := []) ok (O_laws_toMachine_rrrrr_ok N) (jn_ok _ _ _) Try.func8 (by kernel_rfl) (IT := noIt) (sl := sl_laws_toMachine_rrrrr) (J := J_laws_toMachine_rrrrr) (K := K) (H := [(some (HE.mk true (HB.rows (B.i64 _)))), (some (HE.mk true (HB.rows (B.i64 _)))), (some (HE.mk true (HB.rows (B.i64 _)))), (some (HE.mk true (HB.rows (B.lPortValue _)))), (some (HE.mk true (HB.rows (B.lPortValue _))))]) (noIt_ok) (by kernel_rfl) rfl ((e_laws_toMachine_rrrrr N _ _ _ _ _ _ _ _ _ _ _ _ _ _ _ _ _ K).trans h)
  · cases h
/-! ### loop.example/g00038/spec.MemFault -/
abbrev sl_spec_MemFault : SlotT := []
abbrev J_spec_MemFault : JT := jn [(1, [(16, .b)])] [] []
noncomputable def O_spec_MemFault (N : Nat) : Orc E := noFn
theorem O_spec_MemFault_ok (N : Nat) : OrcOk (O_spec_MemFault N) := noFn_ok
noncomputable def g_spec_MemFault (N : Nat) {R : Type} (s : ByteArray) (k : Int → Option R) : Option R :=
 (oK (cond ((((ByteArray.size s) : Nat) : Int) == (0 : Int))
 (some true)
 (cond ((Int.tmod (((ByteArray.size s) : Nat) : Int) (256 : Int)) != (0 : Int))
 (some true)
 (some (decide (((((ByteArray.size s) : Nat) : Int) > (65536 : Int))))))) fun j =>
 (cond j
 (k (1 : Int))
 (k (0 : Int))))
theorem e_spec_MemFault (N : Nat) {R : Type} (s : ByteArray) (K : AV → Hp E → Option R) :
    runFnI (E := E) (O_spec_MemFault N) (noIt) sl_spec_MemFault J_spec_MemFault Try.f67 [(AV.sc (SV.str s))] [] K =
      g_spec_MemFault N s (fun n => K (AV.sc (SV.int IntKind.i64 n)) []) := by kernel_rfl
noncomputable def o_spec_MemFault (N : Nat) {R : Type} (args : List AV) (H : Hp E) (K : AV → Hp E → Option R) : Option R :=
 match args, H with
 | [(AV.sc (SV.str s))], [] => g_spec_MemFault N s (fun n => K (AV.sc (SV.int IntKind.i64 n)) [])
 | _, _ => none
theorem o_spec_MemFault_ok (N : Nat) : FnOk E 67 (o_spec_MemFault N) := by
  intro R args H K r h
  unfold o_spec_MemFault at h
  dsimp only at h
  split at h
  · exact fnB_ok (ids := []) (top := []) ok (O_spec_MemFault_ok N) (jn_ok _ _ _) Try.func67 (by kernel_rfl) (IT := noIt) (sl := sl_spec_MemFault) (J := J_spec_MemFault) (K := K) (H := []) (noIt_ok) (by kernel_rfl) rfl ((e_spec_MemFault N _ K).trans h)
  · cases h
/-! ### loop.example/g00038/spec.l01IsWord -/
abbrev sl_spec_l01IsWord : SlotT := []
abbrev J_spec_l01IsWord : JT := jn [(1, [(2, .b)])] [] []
noncomputable def O_spec_l01IsWord (N : Nat) : Orc E := noFn
theorem O_spec_l01IsWord_ok (N : Nat) : OrcOk (O_spec_l01IsWord N) := noFn_ok
noncomputable def g_spec_l01IsWord (N : Nat) {R : Type} (n : Int) (k : Bool → Option R) : Option R :=
 (oK (cond (decide ((n ≥ (0 : Int))))
 (some (decide ((n < (4294967296 : Int)))))
 (some false)) fun j =>
 (k j))
theorem e_spec_l01IsWord (N : Nat) {R : Type} (n : Int) (K : AV → Hp E → Option R) :
    runFnI (E := E) (O_spec_l01IsWord N) (noIt) sl_spec_l01IsWord J_spec_l01IsWord Try.f68 [(AV.sc (SV.int IntKind.i64 n))] [] K =
      g_spec_l01IsWord N n (fun b => K (AV.sc (SV.bool b)) []) := by kernel_rfl
noncomputable def o_spec_l01IsWord (N : Nat) {R : Type} (args : List AV) (H : Hp E) (K : AV → Hp E → Option R) : Option R :=
 match args, H with
 | [(AV.sc (SV.int IntKind.i64 n))], [] => g_spec_l01IsWord N n (fun b => K (AV.sc (SV.bool b)) [])
 | _, _ => none
theorem o_spec_l01IsWord_ok (N : Nat) : FnOk E 68 (o_spec_l01IsWord N) := by
  intro R args H K r h
  unfold o_spec_l01IsWord at h
  dsimp only at h
  split at h
  · exact fnB_ok (ids := []) (top := []) ok (O_spec_l01IsWord_ok N) (jn_ok _ _ _) Try.func68 (by kernel_rfl) (IT := noIt) (sl := sl_spec_l01IsWord) (J := J_spec_l01IsWord) (K := K) (H := []) (noIt_ok) (by kernel_rfl) rfl ((e_spec_l01IsWord N _ K).trans h)
  · cases h
/-! ### loop.example/g00038/spec.l04Words -/
abbrev sl_spec_l04Words_r : SlotT := [(0, ([0, 1, 5], [4]))]
abbrev J_spec_l04Words_r : JT := jn [] [] []
noncomputable def O_spec_l04Words_r (N : Nat) : Orc E := addFn 68 (o_spec_l01IsWord N) (noFn)
theorem O_spec_l04Words_r_ok (N : Nat) : OrcOk (O_spec_l04Words_r N) := addFn_ok (o_spec_l01IsWord_ok N) (noFn_ok)
noncomputable def s_spec_l04Words_r_0 (N : Nat) {R : Type} (b1 : Bool) (n1 : Int) (l1 : List Int) (n2 : Int) (ag : Int → Option R)  (kR : Option R) (kN : Option R) : Option R :=
 (cond (decide ((n2 < n1)))
 (cond ((decide (((0 : Int) ≤ n2))) && (decide ((n2 < (((List.length l1) : Nat) : Int)))))
 (elemK l1 (Int.toNat n2) fun x =>
 (g_spec_l01IsWord N x fun b2 =>
 (cond (!b2)
 kR
 (ag (IntKind.wrap IntKind.i64 (n2 + (1 : Int)))))))
 none)
 kN)
noncomputable def l_spec_l04Words_r_0 (N : Nat) {R : Type} (b1 : Bool) (n1 : Int) (l1 : List Int) (kR : Option R) (kN : Option R) : Nat → Int → Option R
 | 0, _ => none
 | f + 1, n2 => s_spec_l04Words_r_0 N b1 n1 l1 n2 (fun n2 => l_spec_l04Words_r_0 N b1 n1 l1 kR kN f n2)  kR kN
noncomputable def c_spec_l04Words_r_0 (N : Nat) {R : Type} (b1 : Bool) (n1 : Int) (l1 : List Int) (n2 : Int) (kR : Option R) (kN : Option R) : Option R := l_spec_l04Words_r_0 N b1 n1 l1 kR kN N n2
theorem se_spec_l04Words_r_0 (N : Nat) {R : Type} (b1 : Bool) (n1 : Int) (l1 : List Int) (n2 : Int) (AG : List (Option AV) → Hp E → Option R) (KL : Ex → List (Option AV) → Hp E → Option R) :
    iterStep (E := E) (O_spec_l04Words_r N) (fun {R} => LI (noIt) 1 21 sl_spec_l04Words_r (R := R)) J_spec_l04Words_r 1 21 0 [0, 1, 5] [4] (body Try.f69 0) AG KL [(some (AV.sc (SV.slc 0 none b1))), (some (AV.sc (SV.int IntKind.i64 n1))), (some (AV.sc (SV.int IntKind.i64 n2)))] [(some (HE.mk true (HB.rows (B.i64 l1))))] =
      s_spec_l04Words_r_0 N b1 n1 l1 n2 (fun n2 => AG [(some (AV.sc (SV.slc 0 none b1))), (some (AV.sc (SV.int IntKind.i64 n1))), (some (AV.sc (SV.int IntKind.i64 n2)))] [(some (HE.mk true (HB.rows (B.i64 l1))))])  (KL Ex.ret [(some (AV.sc (SV.bool false)))] [(some (HE.mk true (HB.rows (B.i64 l1))))]) (KL Ex.normal [none] [(some (HE.mk true (HB.rows (B.i64 l1))))]) := by kernel_rfl
theorem le_spec_l04Words_r_0 (N : Nat) {R : Type} (b1 : Bool) (n1 : Int) (l1 : List Int) (KL : Ex → List (Option AV) → Hp E → Option R) : ∀ (f : Nat), ∀ (n2 : Int), iterK (E := E) (O_spec_l04Words_r N) (fun {R} => LI (noIt) 1 21 sl_spec_l04Words_r (R := R)) J_spec_l04Words_r 1 21 0 [0, 1, 5] [4] (body Try.f69 0) f [(some (AV.sc (SV.slc 0 none b1))), (some (AV.sc (SV.int IntKind.i64 n1))), (some (AV.sc (SV.int IntKind.i64 n2)))] [(some (HE.mk true (HB.rows (B.i64 l1))))] KL = l_spec_l04Words_r_0 N b1 n1 l1 (KL Ex.ret [(some (AV.sc (SV.bool false)))] [(some (HE.mk true (HB.rows (B.i64 l1))))]) (KL Ex.normal [none] [(some (HE.mk true (HB.rows (B.i64 l1))))]) f n2 := by
  intro f
  induction f with
  | zero => intros; rfl
  | succ f ih =>
    intro n2
    rw [iterK_succ, se_spec_l04Words_r_0]
    exact (congrArg (fun z0 => s_spec_l04Words_r_0 N b1 n1 l1 n2 z0 (KL Ex.ret [(some (AV.sc (SV.bool false)))] [(some (HE.mk true (HB.rows (B.i64 l1))))]) (KL Ex.normal [none] [(some (HE.mk true (HB.rows (B.i64 l1))))])) (funext fun n2 => ih n2))
noncomputable def i_spec_l04Words_r_0 (N : Nat) {R : Type} (vs : List (Option AV)) (H : Hp E) (KL : Ex → List (Option AV) → Hp E → Option R) : Option R :=
 match vs, H with
 | [(some (AV.sc (SV.slc 0 none b1))), (some (AV.sc (SV.int IntKind.i64 n1))), (some (AV.sc (SV.int IntKind.i64 n2)))], [(some (HE.mk true (HB.rows (B.i64 l1))))] => c_spec_l04Words_r_0 N b1 n1 l1 n2 (KL Ex.ret [(some (AV.sc (SV.bool false)))] [(some (HE.mk true (HB.rows (B.i64 l1))))]) (KL Ex.normal [none] [(some (HE.mk true (HB.rows (B.i64 l1))))])
 | _, _ => none
noncomputable def IT_spec_l04Words_r_0 (N : Nat) : Its E := addIt 0 (i_spec_l04Words_r_0 N) (noIt)
theorem IT_spec_l04Words_r_0_ok (N : Nat) : ItOk (IT_spec_l04Words_r_0 N) 1 21 sl_spec_l04Words_r (lsB Try.f69 [0]) :=
  addItB_ok (inner := []) ok (O_spec_l04Words_r_ok N) (jn_ok _ _ _) (noIt_ok) rfl (by kernel_rfl) rfl fun vs H KL r h => by
    unfold i_spec_l04Words_r_0 at h
    split at h
    · exact ⟨_, (le_spec_l04Words_r_0 N _ _ _ KL N _).trans h⟩
    · cases h
noncomputable def g_spec_l04Words_r (N : Nat) {R : Type} (b : Bool) (n : Int) (l : List Int) (k : Bool → Option R) : Option R :=
 (cond ((((List.length l) : Nat) : Int) != n)
 (k false)
 (c_spec_l04Words_r_0 N b n l (0 : Int) (
 (k false)) (
 (k true))))
theorem e_spec_l04Words_r (N : Nat) {R : Type} (b : Bool) (n : Int) (l : List Int) (K : AV → Hp E → Option R) :
    runFnI (E := E) (O_spec_l04Words_r N) (IT_spec_l04Words_r_0 N) sl_spec_l04Words_r J_spec_l04Words_r Try.f69 [(AV.sc (SV.slc 0 none b)), (AV.sc (SV.int IntKind.i64 n))] [(some (HE.mk true (HB.rows (B.i64 l))))] K =
      g_spec_l04Words_r N b n l (fun b3 => K (AV.sc (SV.bool b3)) [(some (HE.mk true (HB.rows (B.i64 l))))]) := by kernel_rfl
noncomputable def o_spec_l04Words_r (N : Nat) {R : Type} (args : List AV) (H : Hp E) (K : AV → Hp E → Option R) : Option R :=
 match args, H with
 | [(AV.sc (SV.slc 0 none b)), (AV.sc (SV.int IntKind.i64 n))], [(some (HE.mk true (HB.rows (B.i64 l))))] => g_spec_l04Words_r N b n l (fun b3 => K (AV.sc (SV.bool b3)) [(some (HE.mk true (HB.rows (B.i64 l))))])
 | _, _ => none
theorem o_spec_l04Words_r_ok (N : Nat) : FnOk E 69 (o_spec_l04Words_r N) := by
  intro R args H K r h
  unfold o_spec_l04Words_r at h
  dsimp only at h
  split at h
  · exact fnB_ok (ids := [0]) (top := [0]) ok (O_spec_l04Words_r_ok N) (jn_ok _ _ _) Try.func69 (by kernel_rfl) (IT := IT_spec_l04Words_r_0 N) (sl := sl_spec_l04Words_r) (J := J_spec_l04Words_r) (K := K) (H := [(some (HE.mk true (HB.rows (B.i64 _))))]) (IT_spec_l04Words_r_0_ok N) (by kernel_rfl) rfl ((e_spec_l04Words_r N _ _ _ K).trans h)
  · cases h
/-! ### loop.example/g00038/spec.l04Ports -/
abbrev sl_spec_l04Ports_r : SlotT := [(0, ([0, 3], [2]))]
abbrev J_spec_l04Ports_r : JT := jn [(6, [(35, .b)])] [] []
noncomputable def O_spec_l04Ports_r (N : Nat) : Orc E := addFn 68 (o_spec_l01IsWord N) (noFn)
theorem O_spec_l04Ports_r_ok (N : Nat) : OrcOk (O_spec_l04Ports_r N) := addFn_ok (o_spec_l01IsWord_ok N) (noFn_ok)
noncomputable def s_spec_l04Ports_r_0 (N : Nat) {R : Type} (b1 : Bool) (l1 : List PortValue) (n : Int) (ag : Int → Option R)  (kR : Option R) (kN : Option R) : Option R :=
 (cond (decide ((n < (((List.length l1) : Nat) : Int))))
 (oK (cond ((decide (((0 : Int) ≤ n))) && (decide ((n < (((List.length l1) : Nat) : Int)))))
 (elemK l1 (Int.toNat n) fun x =>
 (cond (decide (((PortValue.fPort x) < (0 : Int))))
 (some true)
 (cond ((decide (((0 : Int) ≤ n))) && (decide ((n < (((List.length l1) : Nat) : Int)))))
 (elemK l1 (Int.toNat n) fun x1 =>
 (cond (decide (((PortValue.fPort x1) > (2047 : Int))))
 (some true)
 (cond ((decide (((0 : Int) ≤ n))) && (decide ((n < (((List.length l1) : Nat) : Int)))))
 (elemK l1 (Int.toNat n) fun x2 =>
 (g_spec_l01IsWord N (PortValue.fValue x2) fun b2 =>
 (some (!b2))))
 none)))
 none)))
 none) fun j =>
 (cond j
 kR
 (ag (IntKind.wrap IntKind.i64 (n + (1 : Int))))))
 kN)
noncomputable def l_spec_l04Ports_r_0 (N : Nat) {R : Type} (b1 : Bool) (l1 : List PortValue) (kR : Option R) (kN : Option R) : Nat → Int → Option R
 | 0, _ => none
 | f + 1, n => s_spec_l04Ports_r_0 N b1 l1 n (fun n => l_spec_l04Ports_r_0 N b1 l1 kR kN f n)  kR kN
noncomputable def c_spec_l04Ports_r_0 (N : Nat) {R : Type} (b1 : Bool) (l1 : List PortValue) (n : Int) (kR : Option R) (kN : Option R) : Option R := l_spec_l04Ports_r_0 N b1 l1 kR kN N n
theorem se_spec_l04Ports_r_0 (N : Nat) {R : Type} (b1 : Bool) (l1 : List PortValue) (n : Int) (AG : List (Option AV) → Hp E → Option R) (KL : Ex → List (Option AV) → Hp E → Option R) :
    iterStep (E := E) (O_spec_l04Ports_r N) (fun {R} => LI (noIt) 1 36 sl_spec_l04Ports_r (R := R)) J_spec_l04Ports_r 1 36 0 [0, 3] [2] (body Try.f70 0) AG KL [(some (AV.sc (SV.slc 0 none b1))), (some (AV.sc (SV.int IntKind.i64 n)))] [(some (HE.mk true (HB.rows (B.iPortValue l1))))] =
      s_spec_l04Ports_r_0 N b1 l1 n (fun n => AG [(some (AV.sc (SV.slc 0 none b1))), (some (AV.sc (SV.int IntKind.i64 n)))] [(some (HE.mk true (HB.rows (B.iPortValue l1))))])  (KL Ex.ret [(some (AV.sc (SV.bool false)))] [(some (HE.mk true (HB.rows (B.iPortValue l1))))]) (KL Ex.normal [none] [(some (HE.mk true (HB.rows (B.iPortValue l1))))]) := by kernel_rfl
theorem le_spec_l04Ports_r_0 (N : Nat) {R : Type} (b1 : Bool) (l1 : List PortValue) (KL : Ex → List (Option AV) → Hp E → Option R) : ∀ (f : Nat), ∀ (n : Int), iterK (E := E) (O_spec_l04Ports_r N) (fun {R} => LI (noIt) 1 36 sl_spec_l04Ports_r (R := R)) J_spec_l04Ports_r 1 36 0 [0, 3] [2] (body Try.f70 0) f [(some (AV.sc (SV.slc 0 none b1))), (some (AV.sc (SV.int IntKind.i64 n)))] [(some (HE.mk true (HB.rows (B.iPortValue l1))))] KL = l_spec_l04Ports_r_0 N b1 l1 (KL Ex.ret [(some (AV.sc (SV.bool false)))] [(some (HE.mk true (HB.rows (B.iPortValue l1))))]) (KL Ex.normal [none] [(some (HE.mk true (HB.rows (B.iPortValue l1))))]) f n := by
  intro f
  induction f with
  | zero => intros; rfl
  | succ f ih =>
    intro n
    rw [iterK_succ, se_spec_l04Ports_r_0]
    exact (congrArg (fun z0 => s_spec_l04Ports_r_0 N b1 l1 n z0 (KL Ex.ret [(some (AV.sc (SV.bool false)))] [(some (HE.mk true (HB.rows (B.iPortValue l1))))]) (KL Ex.normal [none] [(some (HE.mk true (HB.rows (B.iPortValue l1))))])) (funext fun n => ih n))
noncomputable def i_spec_l04Ports_r_0 (N : Nat) {R : Type} (vs : List (Option AV)) (H : Hp E) (KL : Ex → List (Option AV) → Hp E → Option R) : Option R :=
 match vs, H with
 | [(some (AV.sc (SV.slc 0 none b1))), (some (AV.sc (SV.int IntKind.i64 n)))], [(some (HE.mk true (HB.rows (B.iPortValue l1))))] => c_spec_l04Ports_r_0 N b1 l1 n (KL Ex.ret [(some (AV.sc (SV.bool false)))] [(some (HE.mk true (HB.rows (B.iPortValue l1))))]) (KL Ex.normal [none] [(some (HE.mk true (HB.rows (B.iPortValue l1))))])
 | _, _ => none
noncomputable def IT_spec_l04Ports_r_0 (N : Nat) : Its E := addIt 0 (i_spec_l04Ports_r_0 N) (noIt)
theorem IT_spec_l04Ports_r_0_ok (N : Nat) : ItOk (IT_spec_l04Ports_r_0 N) 1 36 sl_spec_l04Ports_r (lsB Try.f70 [0]) :=
  addItB_ok (inner := []) ok (O_spec_l04Ports_r_ok N) (jn_ok _ _ _) (noIt_ok) rfl (by kernel_rfl) rfl fun vs H KL r h => by
    unfold i_spec_l04Ports_r_0 at h
    split at h
    · exact ⟨_, (le_spec_l04Ports_r_0 N _ _ KL N _).trans h⟩
    · cases h
noncomputable def g_spec_l04Ports_r (N : Nat) {R : Type} (b : Bool) (l : List PortValue) (k : Bool → Option R) : Option R :=
 (cond (decide (((((List.length l) : Nat) : Int) > (100 : Int))))
 (k false)
 (c_spec_l04Ports_r_0 N b l (0 : Int) (
 (k false)) (
 (k true))))
theorem e_spec_l04Ports_r (N : Nat) {R : Type} (b : Bool) (l : List PortValue) (K : AV → Hp E → Option R) :
    runFnI (E := E) (O_spec_l04Ports_r N) (IT_spec_l04Ports_r_0 N) sl_spec_l04Ports_r J_spec_l04Ports_r Try.f70 [(AV.sc (SV.slc 0 none b))] [(some (HE.mk true (HB.rows (B.iPortValue l))))] K =
      g_spec_l04Ports_r N b l (fun b3 => K (AV.sc (SV.bool b3)) [(some (HE.mk true (HB.rows (B.iPortValue l))))]) := by kernel_rfl
noncomputable def o_spec_l04Ports_r (N : Nat) {R : Type} (args : List AV) (H : Hp E) (K : AV → Hp E → Option R) : Option R :=
 match args, H with
 | [(AV.sc (SV.slc 0 none b))], [(some (HE.mk true (HB.rows (B.iPortValue l))))] => g_spec_l04Ports_r N b l (fun b3 => K (AV.sc (SV.bool b3)) [(some (HE.mk true (HB.rows (B.iPortValue l))))])
 | _, _ => none
theorem o_spec_l04Ports_r_ok (N : Nat) : FnOk E 70 (o_spec_l04Ports_r N) := by
  intro R args H K r h
  unfold o_spec_l04Ports_r at h
  dsimp only at h
  split at h
  · exact fnB_ok (ids := [0]) (top := [0]) ok (O_spec_l04Ports_r_ok N) (jn_ok _ _ _) Try.func70 (by kernel_rfl) (IT := IT_spec_l04Ports_r_0 N) (sl := sl_spec_l04Ports_r) (J := J_spec_l04Ports_r) (K := K) (H := [(some (HE.mk true (HB.rows (B.iPortValue _))))]) (IT_spec_l04Ports_r_0_ok N) (by kernel_rfl) rfl ((e_spec_l04Ports_r N _ _ K).trans h)
  · cases h
end Go.Sa
