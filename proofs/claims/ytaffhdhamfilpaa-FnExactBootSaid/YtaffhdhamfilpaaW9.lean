import Derived.Test.YtaffhdhamfilpaaSpec
import Derived.Test.YtaffhdhamfilpaaPLb
import Derived.Test.YtaffhdhamfilpaaW8
set_option linter.all false
namespace Go.Sa
open Go Go.Eng Go.Proofs
set_option maxRecDepth 100000
set_option maxHeartbeats 4000000
/-! ### loop.example/g00038/laws.markPortValueS -/
abbrev sl_laws_markPortValueS_w : SlotT := [(0, ([0, 1, 5], [1]))]
abbrev J_laws_markPortValueS_w : JT := jn [] [] []
noncomputable def O_laws_markPortValueS_w (N : Nat) : Orc E := noFn
theorem O_laws_markPortValueS_w_ok (N : Nat) : OrcOk (O_laws_markPortValueS_w N) := noFn_ok
noncomputable def s_laws_markPortValueS_w_0 (N : Nat) {R : Type} (b1 : Bool) (n1 : Int) (n2 : Int) (l1 : List PortValue) (ag : Int → Int → (List PortValue) → Option R)  (kN : Int → (List PortValue) → Option R) : Option R :=
  (cond (decide ((n2 < (((List.length l1) : Nat) : Int))))
  (cond ((decide (((0 : Int) ≤ n2))) && (decide ((n2 < (((List.length l1) : Nat) : Int)))))
    (elemK l1 (Int.toNat n2) fun x =>
      (cond (Nat.blt (Int.toNat n2) (List.length l1))
      (cond ((decide (((0 : Int) ≤ n2))) && (decide ((n2 < (((List.length (nset l1 (Int.toNat n2) (PortValue.mk n1 (PortValue.fValue x)))) : Nat) : Int)))))
        (elemK (nset l1 (Int.toNat n2) (PortValue.mk n1 (PortValue.fValue x))) (Int.toNat n2) fun x1 =>
          (cond (Nat.blt (Int.toNat n2) (List.length (nset l1 (Int.toNat n2) (PortValue.mk n1 (PortValue.fValue x)))))
          (ag (IntKind.wrap IntKind.i64 ((IntKind.wrap IntKind.i64 (n1 + (1 : Int))) + (1 : Int))) (IntKind.wrap IntKind.i64 (n2 + (1 : Int))) (nset (nset l1 (Int.toNat n2) (PortValue.mk n1 (PortValue.fValue x))) (Int.toNat n2) (PortValue.mk (PortValue.fPort x1) (IntKind.wrap IntKind.i64 (n1 + (1 : Int))))))
          none))
        none)
      none))
    none)
  (kN n1 l1))
noncomputable def l_laws_markPortValueS_w_0 (N : Nat) {R : Type} (b1 : Bool) (kN : Int → (List PortValue) → Option R) : Nat → Int → Int → (List PortValue) → Option R
  | 0, _, _, _ => none
  | f + 1, n1, n2, l1 => s_laws_markPortValueS_w_0 N b1 n1 n2 l1 (fun n1 n2 l1 => l_laws_markPortValueS_w_0 N b1 kN f n1 n2 l1)  kN
noncomputable def c_laws_markPortValueS_w_0 (N : Nat) {R : Type} (b1 : Bool) (n1 : Int) (n2 : Int) (l1 : List PortValue) (kN : Int → (List PortValue) → Option R) : Option R := l_laws_markPortValueS_w_0 N b1 kN N n1 n2 l1
theorem se_laws_markPortValueS_w_0 (N : Nat) {R : Type} (b1 : Bool) (n1 : Int) (n2 : Int) (l1 : List PortValue) (AG : List (Option AV) → Hp E → Option R) (KL : Ex → List (Option AV) → Hp E → Option R) :
    iterStep (E := E) (O_laws_markPortValueS_w N) (fun {R} => LI (noIt) 1 27 sl_laws_markPortValueS_w (R := R)) J_laws_markPortValueS_w 1 27 0 [0, 1, 5] [1] (body Go.Proofs.Try.f100 0) AG KL [(some (AV.sc (SV.slc 0 none b1))), (some (AV.sc (SV.int IntKind.i64 n1))), (some (AV.sc (SV.int IntKind.i64 n2)))] [(some (HE.mk false (HB.rows (B.iPortValue l1))))] =
      s_laws_markPortValueS_w_0 N b1 n1 n2 l1 (fun n1 n2 l1 => AG [(some (AV.sc (SV.slc 0 none b1))), (some (AV.sc (SV.int IntKind.i64 n1))), (some (AV.sc (SV.int IntKind.i64 n2)))] [(some (HE.mk false (HB.rows (B.iPortValue l1))))])  (fun n5 l4 => KL Ex.normal [(some (AV.sc (SV.int IntKind.i64 n5)))] [(some (HE.mk false (HB.rows (B.iPortValue l4))))]) := by kernel_rfl
theorem le_laws_markPortValueS_w_0 (N : Nat) {R : Type} (b1 : Bool) (KL : Ex → List (Option AV) → Hp E → Option R) : ∀ (f : Nat), ∀ (n1 : Int) (n2 : Int) (l1 : List PortValue), iterK (E := E) (O_laws_markPortValueS_w N) (fun {R} => LI (noIt) 1 27 sl_laws_markPortValueS_w (R := R)) J_laws_markPortValueS_w 1 27 0 [0, 1, 5] [1] (body Go.Proofs.Try.f100 0) f [(some (AV.sc (SV.slc 0 none b1))), (some (AV.sc (SV.int IntKind.i64 n1))), (some (AV.sc (SV.int IntKind.i64 n2)))] [(some (HE.mk false (HB.rows (B.iPortValue l1))))] KL = l_laws_markPortValueS_w_0 N b1 (fun n5 l4 => KL Ex.normal [(some (AV.sc (SV.int IntKind.i64 n5)))] [(some (HE.mk false (HB.rows (B.iPortValue l4))))]) f n1 n2 l1 := by
  intro f
  induction f with
  | zero => intros; rfl
  | succ f ih =>
    intro n1 n2 l1
    rw [iterK_succ, se_laws_markPortValueS_w_0]
    exact (congrArg (fun z0 => s_laws_markPortValueS_w_0 N b1 n1 n2 l1 z0 (fun n5 l4 => KL Ex.normal [(some (AV.sc (SV.int IntKind.i64 n5)))] [(some (HE.mk false (HB.rows (B.iPortValue l4))))])) (funext fun n1 => funext fun n2 => funext fun l1 => ih n1 n2 l1))
noncomputable def i_laws_markPortValueS_w_0 (N : Nat) {R : Type} (vs : List (Option AV)) (H : Hp E) (KL : Ex → List (Option AV) → Hp E → Option R) : Option R :=
  match vs, H with
  | [(some (AV.sc (SV.slc 0 none b1))), (some (AV.sc (SV.int IntKind.i64 n1))), (some (AV.sc (SV.int IntKind.i64 n2)))], [(some (HE.mk false (HB.rows (B.iPortValue l1))))] => c_laws_markPortValueS_w_0 N b1 n1 n2 l1 (fun n6 l5 => KL Ex.normal [(some (AV.sc (SV.int IntKind.i64 n6)))] [(some (HE.mk false (HB.rows (B.iPortValue l5))))])
  | _, _ => none
noncomputable def IT_laws_markPortValueS_w_0 (N : Nat) : Its E := addIt 0 (i_laws_markPortValueS_w_0 N) (noIt)
theorem IT_laws_markPortValueS_w_0_ok (N : Nat) : ItOk (IT_laws_markPortValueS_w_0 N) 1 27 sl_laws_markPortValueS_w (lsB Go.Proofs.Try.f100 [0]) :=
  addItB_ok (inner := []) ok (O_laws_markPortValueS_w_ok N) (jn_ok _ _ _) (noIt_ok) rfl (by kernel_rfl) rfl fun vs H KL r h => by
    unfold i_laws_markPortValueS_w_0 at h
    split at h
    · exact ⟨_, (le_laws_markPortValueS_w_0 N _ KL N _ _ _).trans h⟩
    · cases h
noncomputable def g_laws_markPortValueS_w (N : Nat) {R : Type} (b : Bool) (n : Int) (l : List PortValue) (k : Int → (List PortValue) → Option R) : Option R :=
  (c_laws_markPortValueS_w_0 N b n (0 : Int) l fun n3 l2 =>
  (k n3 l2))
theorem e_laws_markPortValueS_w (N : Nat) {R : Type} (b : Bool) (n : Int) (l : List PortValue) (K : AV → Hp E → Option R) :
    runFnI (E := E) (O_laws_markPortValueS_w N) (IT_laws_markPortValueS_w_0 N) sl_laws_markPortValueS_w J_laws_markPortValueS_w Go.Proofs.Try.f100 [(AV.sc (SV.slc 0 none b)), (AV.sc (SV.int IntKind.i64 n))] [(some (HE.mk false (HB.rows (B.iPortValue l))))] K =
      g_laws_markPortValueS_w N b n l (fun n4 l3 => K (AV.sc (SV.int IntKind.i64 n4)) [(some (HE.mk false (HB.rows (B.iPortValue l3))))]) := by kernel_rfl
noncomputable def o_laws_markPortValueS_w (N : Nat) {R : Type} (args : List AV) (H : Hp E) (K : AV → Hp E → Option R) : Option R :=
  match args, H with
  | [(AV.sc (SV.slc 0 none b)), (AV.sc (SV.int IntKind.i64 n))], [(some (HE.mk false (HB.rows (B.iPortValue l))))] => g_laws_markPortValueS_w N b n l (fun n4 l3 => K (AV.sc (SV.int IntKind.i64 n4)) [(some (HE.mk false (HB.rows (B.iPortValue l3))))])
  | _, _ => none
theorem o_laws_markPortValueS_w_ok (N : Nat) : FnOk E 100 (o_laws_markPortValueS_w N) := by
  intro R args H K r h
  unfold o_laws_markPortValueS_w at h
  dsimp only at h
  split at h
  · exact fnB_ok (ids := [0]) (top := [0]) ok (O_laws_markPortValueS_w_ok N) (jn_ok _ _ _) Go.Proofs.Try.func100 (by kernel_rfl) (IT := IT_laws_markPortValueS_w_0 N) (sl := sl_laws_markPortValueS_w) (J := J_laws_markPortValueS_w) (K := K) (H := [(some (HE.mk false (HB.rows (B.iPortValue _))))]) (IT_laws_markPortValueS_w_0_ok N) (by kernel_rfl) rfl ((e_laws_markPortValueS_w N _ _ _ K).trans h)
  · cases h
/-! ### loop.example/g00038/laws.markMachine -/
abbrev sl_laws_markMachine_wwwww : SlotT := []
abbrev J_laws_markMachine_wwwww : JT := jn [] [] []
noncomputable def O_laws_markMachine_wwwww (N : Nat) : Orc E := addFn 100 (o_laws_markPortValueS_w N) (addFn 64 (o_laws_markInt64S_w N) (noFn))
theorem O_laws_markMachine_wwwww_ok (N : Nat) : OrcOk (O_laws_markMachine_wwwww N) := addFn_ok (o_laws_markPortValueS_w_ok N) (addFn_ok (o_laws_markInt64S_w_ok N) (noFn_ok))
noncomputable def g_laws_markMachine_wwwww (N : Nat) {R : Type} (n : Int) (b : Bool) (n1 : Int) (b1 : Bool) (b2 : Bool) (s : ByteArray) (n2 : Int) (n3 : Int) (n4 : Int) (b3 : Bool) (b4 : Bool) (n5 : Int) (n6 : Int) (l : List Int) (l1 : List Int) (l2 : List Int) (l3 : List PortValue) (l4 : List PortValue) (k : Int → (List Int) → (List Int) → (List Int) → (List PortValue) → (List PortValue) → Option R) : Option R :=
  (g_laws_markInt64S_w N b n6 l fun n7 l5 =>
  (g_laws_markInt64S_w N b1 n7 l1 fun n8 l6 =>
  (g_laws_markInt64S_w N b2 n8 l2 fun n9 l7 =>
  (g_laws_markPortValueS_w N b3 n9 l3 fun n10 l8 =>
  (g_laws_markPortValueS_w N b4 n10 l4 fun n11 l9 =>
  (k n11 l5 l6 l7 l8 l9))))))
theorem e_laws_markMachine_wwwww (N : Nat) {R : Type} (n : Int) (b : Bool) (n1 : Int) (b1 : Bool) (b2 : Bool) (s : ByteArray) (n2 : Int) (n3 : Int) (n4 : Int) (b3 : Bool) (b4 : Bool) (n5 : Int) (n6 : Int) (l : List Int) (l1 : List Int) (l2 : List Int) (l3 : List PortValue) (l4 : List PortValue) (K : AV → Hp E → Option R) :
    runFnI (E := E) (O_laws_markMachine_wwwww N) (noIt) sl_laws_markMachine_wwwww J_laws_markMachine_wwwww Go.Proofs.Try.f63 [(AV.agg [(SV.int IntKind.i64 n), (SV.slc 0 none b), (SV.int IntKind.i64 n1), (SV.slc 1 none b1), (SV.slc 2 none b2), (SV.str s), (SV.int IntKind.i64 n2), (SV.int IntKind.i64 n3), (SV.int IntKind.i64 n4), (SV.slc 3 none b3), (SV.slc 4 none b4), (SV.int IntKind.i64 n5)]), (AV.sc (SV.int IntKind.i64 n6))] [(some (HE.mk false (HB.rows (B.i64 l)))), (some (HE.mk false (HB.rows (B.i64 l1)))), (some (HE.mk false (HB.rows (B.i64 l2)))), (some (HE.mk false (HB.rows (B.iPortValue l3)))), (some (HE.mk false (HB.rows (B.iPortValue l4))))] K =
      g_laws_markMachine_wwwww N n b n1 b1 b2 s n2 n3 n4 b3 b4 n5 n6 l l1 l2 l3 l4 (fun n12 l10 l11 l12 l13 l14 => K (AV.sc (SV.int IntKind.i64 n12)) [(some (HE.mk false (HB.rows (B.i64 l10)))), (some (HE.mk false (HB.rows (B.i64 l11)))), (some (HE.mk false (HB.rows (B.i64 l12)))), (some (HE.mk false (HB.rows (B.iPortValue l13)))), (some (HE.mk false (HB.rows (B.iPortValue l14))))]) := by kernel_rfl
noncomputable def o_laws_markMachine_wwwww (N : Nat) {R : Type} (args : List AV) (H : Hp E) (K : AV → Hp E → Option R) : Option R :=
  match args, H with
  | [(AV.agg [(SV.int IntKind.i64 n), (SV.slc 0 none b), (SV.int IntKind.i64 n1), (SV.slc 1 none b1), (SV.slc 2 none b2), (SV.str s), (SV.int IntKind.i64 n2), (SV.int IntKind.i64 n3), (SV.int IntKind.i64 n4), (SV.slc 3 none b3), (SV.slc 4 none b4), (SV.int IntKind.i64 n5)]), (AV.sc (SV.int IntKind.i64 n6))], [(some (HE.mk false (HB.rows (B.i64 l)))), (some (HE.mk false (HB.rows (B.i64 l1)))), (some (HE.mk false (HB.rows (B.i64 l2)))), (some (HE.mk false (HB.rows (B.iPortValue l3)))), (some (HE.mk false (HB.rows (B.iPortValue l4))))] => g_laws_markMachine_wwwww N n b n1 b1 b2 s n2 n3 n4 b3 b4 n5 n6 l l1 l2 l3 l4 (fun n12 l10 l11 l12 l13 l14 => K (AV.sc (SV.int IntKind.i64 n12)) [(some (HE.mk false (HB.rows (B.i64 l10)))), (some (HE.mk false (HB.rows (B.i64 l11)))), (some (HE.mk false (HB.rows (B.i64 l12)))), (some (HE.mk false (HB.rows (B.iPortValue l13)))), (some (HE.mk false (HB.rows (B.iPortValue l14))))])
  | _, _ => none
theorem o_laws_markMachine_wwwww_ok (N : Nat) : FnOk E 63 (o_laws_markMachine_wwwww N) := by
  intro R args H K r h
  unfold o_laws_markMachine_wwwww at h
  dsimp only at h
  split at h
  · exact fnB_ok (ids := []) (top := []) ok (O_laws_markMachine_wwwww_ok N) (jn_ok _ _ _) Go.Proofs.Try.func63 (by kernel_rfl) (IT := noIt) (sl := sl_laws_markMachine_wwwww) (J := J_laws_markMachine_wwwww) (K := K) (H := [(some (HE.mk false (HB.rows (B.i64 _)))), (some (HE.mk false (HB.rows (B.i64 _)))), (some (HE.mk false (HB.rows (B.i64 _)))), (some (HE.mk false (HB.rows (B.iPortValue _)))), (some (HE.mk false (HB.rows (B.iPortValue _))))]) (noIt_ok) (by kernel_rfl) rfl ((e_laws_markMachine_wwwww N _ _ _ _ _ _ _ _ _ _ _ _ _ _ _ _ _ _ K).trans h)
  · cases h
/-! ### loop.example/g00038/laws.markBooted -/
abbrev sl_laws_markBooted_wwwwww : SlotT := []
abbrev J_laws_markBooted_wwwwww : JT := jn [] [] []
noncomputable def O_laws_markBooted_wwwwww (N : Nat) : Orc E := addFn 64 (o_laws_markInt64S_w N) (addFn 63 (o_laws_markMachine_wwwww N) (noFn))
theorem O_laws_markBooted_wwwwww_ok (N : Nat) : OrcOk (O_laws_markBooted_wwwwww N) := addFn_ok (o_laws_markInt64S_w_ok N) (addFn_ok (o_laws_markMachine_wwwww_ok N) (noFn_ok))
noncomputable def g_laws_markBooted_wwwwww (N : Nat) {R : Type} (n : Int) (n1 : Int) (b : Bool) (n2 : Int) (b1 : Bool) (b2 : Bool) (s : ByteArray) (n3 : Int) (n4 : Int) (n5 : Int) (b3 : Bool) (b4 : Bool) (n6 : Int) (b5 : Bool) (n7 : Int) (l : List Int) (l1 : List Int) (l2 : List Int) (l3 : List PortValue) (l4 : List PortValue) (l5 : List Int) (k : Int → (List Int) → (List Int) → (List Int) → (List PortValue) → (List PortValue) → (List Int) → Option R) : Option R :=
  (g_laws_markMachine_wwwww N n1 b n2 b1 b2 s n3 n4 n5 b3 b4 n6 n7 l l1 l2 l3 l4 fun n8 l6 l7 l8 l9 l10 =>
  (g_laws_markInt64S_w N b5 n8 l5 fun n9 l11 =>
  (k n9 l6 l7 l8 l9 l10 l11)))
theorem e_laws_markBooted_wwwwww (N : Nat) {R : Type} (n : Int) (n1 : Int) (b : Bool) (n2 : Int) (b1 : Bool) (b2 : Bool) (s : ByteArray) (n3 : Int) (n4 : Int) (n5 : Int) (b3 : Bool) (b4 : Bool) (n6 : Int) (b5 : Bool) (n7 : Int) (l : List Int) (l1 : List Int) (l2 : List Int) (l3 : List PortValue) (l4 : List PortValue) (l5 : List Int) (K : AV → Hp E → Option R) :
    runFnI (E := E) (O_laws_markBooted_wwwwww N) (noIt) sl_laws_markBooted_wwwwww J_laws_markBooted_wwwwww Go.Proofs.Try.f20 [(AV.agg [(SV.int IntKind.i64 n), (SV.int IntKind.i64 n1), (SV.slc 0 none b), (SV.int IntKind.i64 n2), (SV.slc 1 none b1), (SV.slc 2 none b2), (SV.str s), (SV.int IntKind.i64 n3), (SV.int IntKind.i64 n4), (SV.int IntKind.i64 n5), (SV.slc 3 none b3), (SV.slc 4 none b4), (SV.int IntKind.i64 n6), (SV.slc 5 none b5)]), (AV.sc (SV.int IntKind.i64 n7))] [(some (HE.mk false (HB.rows (B.i64 l)))), (some (HE.mk false (HB.rows (B.i64 l1)))), (some (HE.mk false (HB.rows (B.i64 l2)))), (some (HE.mk false (HB.rows (B.iPortValue l3)))), (some (HE.mk false (HB.rows (B.iPortValue l4)))), (some (HE.mk false (HB.rows (B.i64 l5))))] K =
      g_laws_markBooted_wwwwww N n n1 b n2 b1 b2 s n3 n4 n5 b3 b4 n6 b5 n7 l l1 l2 l3 l4 l5 (fun n10 l12 l13 l14 l15 l16 l17 => K (AV.sc (SV.int IntKind.i64 n10)) [(some (HE.mk false (HB.rows (B.i64 l12)))), (some (HE.mk false (HB.rows (B.i64 l13)))), (some (HE.mk false (HB.rows (B.i64 l14)))), (some (HE.mk false (HB.rows (B.iPortValue l15)))), (some (HE.mk false (HB.rows (B.iPortValue l16)))), (some (HE.mk false (HB.rows (B.i64 l17))))]) := by kernel_rfl
noncomputable def o_laws_markBooted_wwwwww (N : Nat) {R : Type} (args : List AV) (H : Hp E) (K : AV → Hp E → Option R) : Option R :=
  match args, H with
  | [(AV.agg [(SV.int IntKind.i64 n), (SV.int IntKind.i64 n1), (SV.slc 0 none b), (SV.int IntKind.i64 n2), (SV.slc 1 none b1), (SV.slc 2 none b2), (SV.str s), (SV.int IntKind.i64 n3), (SV.int IntKind.i64 n4), (SV.int IntKind.i64 n5), (SV.slc 3 none b3), (SV.slc 4 none b4), (SV.int IntKind.i64 n6), (SV.slc 5 none b5)]), (AV.sc (SV.int IntKind.i64 n7))], [(some (HE.mk false (HB.rows (B.i64 l)))), (some (HE.mk false (HB.rows (B.i64 l1)))), (some (HE.mk false (HB.rows (B.i64 l2)))), (some (HE.mk false (HB.rows (B.iPortValue l3)))), (some (HE.mk false (HB.rows (B.iPortValue l4)))), (some (HE.mk false (HB.rows (B.i64 l5))))] => g_laws_markBooted_wwwwww N n n1 b n2 b1 b2 s n3 n4 n5 b3 b4 n6 b5 n7 l l1 l2 l3 l4 l5 (fun n10 l12 l13 l14 l15 l16 l17 => K (AV.sc (SV.int IntKind.i64 n10)) [(some (HE.mk false (HB.rows (B.i64 l12)))), (some (HE.mk false (HB.rows (B.i64 l13)))), (some (HE.mk false (HB.rows (B.i64 l14)))), (some (HE.mk false (HB.rows (B.iPortValue l15)))), (some (HE.mk false (HB.rows (B.iPortValue l16)))), (some (HE.mk false (HB.rows (B.i64 l17))))])
  | _, _ => none
theorem o_laws_markBooted_wwwwww_ok (N : Nat) : FnOk E 20 (o_laws_markBooted_wwwwww N) := by
  intro R args H K r h
  unfold o_laws_markBooted_wwwwww at h
  dsimp only at h
  split at h
  · exact fnB_ok (ids := []) (top := []) ok (O_laws_markBooted_wwwwww_ok N) (jn_ok _ _ _) Go.Proofs.Try.func20 (by kernel_rfl) (IT := noIt) (sl := sl_laws_markBooted_wwwwww) (J := J_laws_markBooted_wwwwww) (K := K) (H := [(some (HE.mk false (HB.rows (B.i64 _)))), (some (HE.mk false (HB.rows (B.i64 _)))), (some (HE.mk false (HB.rows (B.i64 _)))), (some (HE.mk false (HB.rows (B.iPortValue _)))), (some (HE.mk false (HB.rows (B.iPortValue _)))), (some (HE.mk false (HB.rows (B.i64 _))))]) (noIt_ok) (by kernel_rfl) rfl ((e_laws_markBooted_wwwwww N _ _ _ _ _ _ _ _ _ _ _ _ _ _ _ _ _ _ _ _ _ K).trans h)
  · cases h
/-! ### loop.example/g00038/laws.heldInt64S -/
abbrev sl_laws_heldInt64S_w : SlotT := [(0, ([0, 1, 5], [1, 4]))]
abbrev J_laws_heldInt64S_w : JT := jn [] [] []
noncomputable def O_laws_heldInt64S_w (N : Nat) : Orc E := noFn
theorem O_laws_heldInt64S_w_ok (N : Nat) : OrcOk (O_laws_heldInt64S_w N) := noFn_ok
noncomputable def s_laws_heldInt64S_w_0 (N : Nat) {R : Type} (b1 : Bool) (l1 : List Int) (n1 : Int) (n2 : Int) (ag : Int → Int → Option R)  (kR : Int → Option R) (kN : Int → Option R) : Option R :=
  (cond (decide ((n2 < (((List.length l1) : Nat) : Int))))
  (cond ((decide (((0 : Int) ≤ n2))) && (decide ((n2 < (((List.length l1) : Nat) : Int)))))
    (elemK l1 (Int.toNat n2) fun x =>
      (cond (x != n1)
      (kR n1)
      (ag (IntKind.wrap IntKind.i64 (n1 + (1 : Int))) (IntKind.wrap IntKind.i64 (n2 + (1 : Int))))))
    none)
  (kN n1))
noncomputable def l_laws_heldInt64S_w_0 (N : Nat) {R : Type} (b1 : Bool) (l1 : List Int) (kR : Int → Option R) (kN : Int → Option R) : Nat → Int → Int → Option R
  | 0, _, _ => none
  | f + 1, n1, n2 => s_laws_heldInt64S_w_0 N b1 l1 n1 n2 (fun n1 n2 => l_laws_heldInt64S_w_0 N b1 l1 kR kN f n1 n2)  kR kN
noncomputable def c_laws_heldInt64S_w_0 (N : Nat) {R : Type} (b1 : Bool) (l1 : List Int) (n1 : Int) (n2 : Int) (kR : Int → Option R) (kN : Int → Option R) : Option R := l_laws_heldInt64S_w_0 N b1 l1 kR kN N n1 n2
theorem se_laws_heldInt64S_w_0 (N : Nat) {R : Type} (b1 : Bool) (l1 : List Int) (n1 : Int) (n2 : Int) (AG : List (Option AV) → Hp E → Option R) (KL : Ex → List (Option AV) → Hp E → Option R) :
    iterStep (E := E) (O_laws_heldInt64S_w N) (fun {R} => LI (noIt) 1 21 sl_laws_heldInt64S_w (R := R)) J_laws_heldInt64S_w 1 21 0 [0, 1, 5] [1, 4] (body Go.Proofs.Try.f66 0) AG KL [(some (AV.sc (SV.slc 0 none b1))), (some (AV.sc (SV.int IntKind.i64 n1))), (some (AV.sc (SV.int IntKind.i64 n2)))] [(some (HE.mk false (HB.rows (B.i64 l1))))] =
      s_laws_heldInt64S_w_0 N b1 l1 n1 n2 (fun n1 n2 => AG [(some (AV.sc (SV.slc 0 none b1))), (some (AV.sc (SV.int IntKind.i64 n1))), (some (AV.sc (SV.int IntKind.i64 n2)))] [(some (HE.mk false (HB.rows (B.i64 l1))))])  (fun n6 => KL Ex.ret [(some (AV.sc (SV.int IntKind.i64 n6))), (some (AV.sc (SV.int IntKind.i64 (-(1 : Int)))))] [(some (HE.mk false (HB.rows (B.i64 l1))))]) (fun n7 => KL Ex.normal [(some (AV.sc (SV.int IntKind.i64 n7))), none] [(some (HE.mk false (HB.rows (B.i64 l1))))]) := by kernel_rfl
theorem le_laws_heldInt64S_w_0 (N : Nat) {R : Type} (b1 : Bool) (l1 : List Int) (KL : Ex → List (Option AV) → Hp E → Option R) : ∀ (f : Nat), ∀ (n1 : Int) (n2 : Int), iterK (E := E) (O_laws_heldInt64S_w N) (fun {R} => LI (noIt) 1 21 sl_laws_heldInt64S_w (R := R)) J_laws_heldInt64S_w 1 21 0 [0, 1, 5] [1, 4] (body Go.Proofs.Try.f66 0) f [(some (AV.sc (SV.slc 0 none b1))), (some (AV.sc (SV.int IntKind.i64 n1))), (some (AV.sc (SV.int IntKind.i64 n2)))] [(some (HE.mk false (HB.rows (B.i64 l1))))] KL = l_laws_heldInt64S_w_0 N b1 l1 (fun n6 => KL Ex.ret [(some (AV.sc (SV.int IntKind.i64 n6))), (some (AV.sc (SV.int IntKind.i64 (-(1 : Int)))))] [(some (HE.mk false (HB.rows (B.i64 l1))))]) (fun n7 => KL Ex.normal [(some (AV.sc (SV.int IntKind.i64 n7))), none] [(some (HE.mk false (HB.rows (B.i64 l1))))]) f n1 n2 := by
  intro f
  induction f with
  | zero => intros; rfl
  | succ f ih =>
    intro n1 n2
    rw [iterK_succ, se_laws_heldInt64S_w_0]
    exact (congrArg (fun z0 => s_laws_heldInt64S_w_0 N b1 l1 n1 n2 z0 (fun n6 => KL Ex.ret [(some (AV.sc (SV.int IntKind.i64 n6))), (some (AV.sc (SV.int IntKind.i64 (-(1 : Int)))))] [(some (HE.mk false (HB.rows (B.i64 l1))))]) (fun n7 => KL Ex.normal [(some (AV.sc (SV.int IntKind.i64 n7))), none] [(some (HE.mk false (HB.rows (B.i64 l1))))])) (funext fun n1 => funext fun n2 => ih n1 n2))
noncomputable def i_laws_heldInt64S_w_0 (N : Nat) {R : Type} (vs : List (Option AV)) (H : Hp E) (KL : Ex → List (Option AV) → Hp E → Option R) : Option R :=
  match vs, H with
  | [(some (AV.sc (SV.slc 0 none b1))), (some (AV.sc (SV.int IntKind.i64 n1))), (some (AV.sc (SV.int IntKind.i64 n2)))], [(some (HE.mk false (HB.rows (B.i64 l1))))] => c_laws_heldInt64S_w_0 N b1 l1 n1 n2 (fun n8 => KL Ex.ret [(some (AV.sc (SV.int IntKind.i64 n8))), (some (AV.sc (SV.int IntKind.i64 (-(1 : Int)))))] [(some (HE.mk false (HB.rows (B.i64 l1))))]) (fun n9 => KL Ex.normal [(some (AV.sc (SV.int IntKind.i64 n9))), none] [(some (HE.mk false (HB.rows (B.i64 l1))))])
  | _, _ => none
noncomputable def IT_laws_heldInt64S_w_0 (N : Nat) : Its E := addIt 0 (i_laws_heldInt64S_w_0 N) (noIt)
theorem IT_laws_heldInt64S_w_0_ok (N : Nat) : ItOk (IT_laws_heldInt64S_w_0 N) 1 21 sl_laws_heldInt64S_w (lsB Go.Proofs.Try.f66 [0]) :=
  addItB_ok (inner := []) ok (O_laws_heldInt64S_w_ok N) (jn_ok _ _ _) (noIt_ok) rfl (by kernel_rfl) rfl fun vs H KL r h => by
    unfold i_laws_heldInt64S_w_0 at h
    split at h
    · exact ⟨_, (le_laws_heldInt64S_w_0 N _ _ KL N _ _).trans h⟩
    · cases h
noncomputable def g_laws_heldInt64S_w (N : Nat) {R : Type} (b : Bool) (n : Int) (l : List Int) (k : Int → Option R) : Option R :=
  (c_laws_heldInt64S_w_0 N b l n (0 : Int) (fun n3 =>
  (k (-(1 : Int)))) (fun n4 =>
  (k n4)))
theorem e_laws_heldInt64S_w (N : Nat) {R : Type} (b : Bool) (n : Int) (l : List Int) (K : AV → Hp E → Option R) :
    runFnI (E := E) (O_laws_heldInt64S_w N) (IT_laws_heldInt64S_w_0 N) sl_laws_heldInt64S_w J_laws_heldInt64S_w Go.Proofs.Try.f66 [(AV.sc (SV.slc 0 none b)), (AV.sc (SV.int IntKind.i64 n))] [(some (HE.mk false (HB.rows (B.i64 l))))] K =
      g_laws_heldInt64S_w N b n l (fun n5 => K (AV.sc (SV.int IntKind.i64 n5)) [(some (HE.mk false (HB.rows (B.i64 l))))]) := by kernel_rfl
noncomputable def o_laws_heldInt64S_w (N : Nat) {R : Type} (args : List AV) (H : Hp E) (K : AV → Hp E → Option R) : Option R :=
  match args, H with
  | [(AV.sc (SV.slc 0 none b)), (AV.sc (SV.int IntKind.i64 n))], [(some (HE.mk false (HB.rows (B.i64 l))))] => g_laws_heldInt64S_w N b n l (fun n5 => K (AV.sc (SV.int IntKind.i64 n5)) [(some (HE.mk false (HB.rows (B.i64 l))))])
  | _, _ => none
theorem o_laws_heldInt64S_w_ok (N : Nat) : FnOk E 66 (o_laws_heldInt64S_w N) := by
  intro R args H K r h
  unfold o_laws_heldInt64S_w at h
  dsimp only at h
  split at h
  · exact fnB_ok (ids := [0]) (top := [0]) ok (O_laws_heldInt64S_w_ok N) (jn_ok _ _ _) Go.Proofs.Try.func66 (by kernel_rfl) (IT := IT_laws_heldInt64S_w_0 N) (sl := sl_laws_heldInt64S_w) (J := J_laws_heldInt64S_w) (K := K) (H := [(some (HE.mk false (HB.rows (B.i64 _))))]) (IT_laws_heldInt64S_w_0_ok N) (by kernel_rfl) rfl ((e_laws_heldInt64S_w N _ _ _ K).trans h)
  · cases h
/-! ### loop.example/g00038/laws.heldPortValueS -/
abbrev sl_laws_heldPortValueS_w : SlotT := [(0, ([0, 1, 5], [1, 4]))]
abbrev J_laws_heldPortValueS_w : JT := jn [] [] []
noncomputable def O_laws_heldPortValueS_w (N : Nat) : Orc E := noFn
theorem O_laws_heldPortValueS_w_ok (N : Nat) : OrcOk (O_laws_heldPortValueS_w N) := noFn_ok
noncomputable def s_laws_heldPortValueS_w_0 (N : Nat) {R : Type} (b1 : Bool) (l1 : List PortValue) (n1 : Int) (n2 : Int) (ag : Int → Int → Option R)  (kR : Int → Option R) (kN : Int → Option R) : Option R :=
  (cond (decide ((n2 < (((List.length l1) : Nat) : Int))))
  (cond ((decide (((0 : Int) ≤ n2))) && (decide ((n2 < (((List.length l1) : Nat) : Int)))))
    (elemK l1 (Int.toNat n2) fun x =>
      (cond ((PortValue.fPort x) != n1)
      (kR n1)
      (cond ((decide (((0 : Int) ≤ n2))) && (decide ((n2 < (((List.length l1) : Nat) : Int)))))
        (elemK l1 (Int.toNat n2) fun x1 =>
          (cond ((PortValue.fValue x1) != (IntKind.wrap IntKind.i64 (n1 + (1 : Int))))
          (kR (IntKind.wrap IntKind.i64 (n1 + (1 : Int))))
          (ag (IntKind.wrap IntKind.i64 ((IntKind.wrap IntKind.i64 (n1 + (1 : Int))) + (1 : Int))) (IntKind.wrap IntKind.i64 (n2 + (1 : Int))))))
        none)))
    none)
  (kN n1))
noncomputable def l_laws_heldPortValueS_w_0 (N : Nat) {R : Type} (b1 : Bool) (l1 : List PortValue) (kR : Int → Option R) (kN : Int → Option R) : Nat → Int → Int → Option R
  | 0, _, _ => none
  | f + 1, n1, n2 => s_laws_heldPortValueS_w_0 N b1 l1 n1 n2 (fun n1 n2 => l_laws_heldPortValueS_w_0 N b1 l1 kR kN f n1 n2)  kR kN
noncomputable def c_laws_heldPortValueS_w_0 (N : Nat) {R : Type} (b1 : Bool) (l1 : List PortValue) (n1 : Int) (n2 : Int) (kR : Int → Option R) (kN : Int → Option R) : Option R := l_laws_heldPortValueS_w_0 N b1 l1 kR kN N n1 n2
theorem se_laws_heldPortValueS_w_0 (N : Nat) {R : Type} (b1 : Bool) (l1 : List PortValue) (n1 : Int) (n2 : Int) (AG : List (Option AV) → Hp E → Option R) (KL : Ex → List (Option AV) → Hp E → Option R) :
    iterStep (E := E) (O_laws_heldPortValueS_w N) (fun {R} => LI (noIt) 1 31 sl_laws_heldPortValueS_w (R := R)) J_laws_heldPortValueS_w 1 31 0 [0, 1, 5] [1, 4] (body Go.Proofs.Try.f101 0) AG KL [(some (AV.sc (SV.slc 0 none b1))), (some (AV.sc (SV.int IntKind.i64 n1))), (some (AV.sc (SV.int IntKind.i64 n2)))] [(some (HE.mk false (HB.rows (B.iPortValue l1))))] =
      s_laws_heldPortValueS_w_0 N b1 l1 n1 n2 (fun n1 n2 => AG [(some (AV.sc (SV.slc 0 none b1))), (some (AV.sc (SV.int IntKind.i64 n1))), (some (AV.sc (SV.int IntKind.i64 n2)))] [(some (HE.mk false (HB.rows (B.iPortValue l1))))])  (fun n6 => KL Ex.ret [(some (AV.sc (SV.int IntKind.i64 n6))), (some (AV.sc (SV.int IntKind.i64 (-(1 : Int)))))] [(some (HE.mk false (HB.rows (B.iPortValue l1))))]) (fun n7 => KL Ex.normal [(some (AV.sc (SV.int IntKind.i64 n7))), none] [(some (HE.mk false (HB.rows (B.iPortValue l1))))]) := by kernel_rfl
theorem le_laws_heldPortValueS_w_0 (N : Nat) {R : Type} (b1 : Bool) (l1 : List PortValue) (KL : Ex → List (Option AV) → Hp E → Option R) : ∀ (f : Nat), ∀ (n1 : Int) (n2 : Int), iterK (E := E) (O_laws_heldPortValueS_w N) (fun {R} => LI (noIt) 1 31 sl_laws_heldPortValueS_w (R := R)) J_laws_heldPortValueS_w 1 31 0 [0, 1, 5] [1, 4] (body Go.Proofs.Try.f101 0) f [(some (AV.sc (SV.slc 0 none b1))), (some (AV.sc (SV.int IntKind.i64 n1))), (some (AV.sc (SV.int IntKind.i64 n2)))] [(some (HE.mk false (HB.rows (B.iPortValue l1))))] KL = l_laws_heldPortValueS_w_0 N b1 l1 (fun n6 => KL Ex.ret [(some (AV.sc (SV.int IntKind.i64 n6))), (some (AV.sc (SV.int IntKind.i64 (-(1 : Int)))))] [(some (HE.mk false (HB.rows (B.iPortValue l1))))]) (fun n7 => KL Ex.normal [(some (AV.sc (SV.int IntKind.i64 n7))), none] [(some (HE.mk false (HB.rows (B.iPortValue l1))))]) f n1 n2 := by
  intro f
  induction f with
  | zero => intros; rfl
  | succ f ih =>
    intro n1 n2
    rw [iterK_succ, se_laws_heldPortValueS_w_0]
    exact (congrArg (fun z0 => s_laws_heldPortValueS_w_0 N b1 l1 n1 n2 z0 (fun n6 => KL Ex.ret [(some (AV.sc (SV.int IntKind.i64 n6))), (some (AV.sc (SV.int IntKind.i64 (-(1 : Int)))))] [(some (HE.mk false (HB.rows (B.iPortValue l1))))]) (fun n7 => KL Ex.normal [(some (AV.sc (SV.int IntKind.i64 n7))), none] [(some (HE.mk false (HB.rows (B.iPortValue l1))))])) (funext fun n1 => funext fun n2 => ih n1 n2))
noncomputable def i_laws_heldPortValueS_w_0 (N : Nat) {R : Type} (vs : List (Option AV)) (H : Hp E) (KL : Ex → List (Option AV) → Hp E → Option R) : Option R :=
  match vs, H with
  | [(some (AV.sc (SV.slc 0 none b1))), (some (AV.sc (SV.int IntKind.i64 n1))), (some (AV.sc (SV.int IntKind.i64 n2)))], [(some (HE.mk false (HB.rows (B.iPortValue l1))))] => c_laws_heldPortValueS_w_0 N b1 l1 n1 n2 (fun n8 => KL Ex.ret [(some (AV.sc (SV.int IntKind.i64 n8))), (some (AV.sc (SV.int IntKind.i64 (-(1 : Int)))))] [(some (HE.mk false (HB.rows (B.iPortValue l1))))]) (fun n9 => KL Ex.normal [(some (AV.sc (SV.int IntKind.i64 n9))), none] [(some (HE.mk false (HB.rows (B.iPortValue l1))))])
  | _, _ => none
noncomputable def IT_laws_heldPortValueS_w_0 (N : Nat) : Its E := addIt 0 (i_laws_heldPortValueS_w_0 N) (noIt)
theorem IT_laws_heldPortValueS_w_0_ok (N : Nat) : ItOk (IT_laws_heldPortValueS_w_0 N) 1 31 sl_laws_heldPortValueS_w (lsB Go.Proofs.Try.f101 [0]) :=
  addItB_ok (inner := []) ok (O_laws_heldPortValueS_w_ok N) (jn_ok _ _ _) (noIt_ok) rfl (by kernel_rfl) rfl fun vs H KL r h => by
    unfold i_laws_heldPortValueS_w_0 at h
    split at h
    · exact ⟨_, (le_laws_heldPortValueS_w_0 N _ _ KL N _ _).trans h⟩
    · cases h
noncomputable def g_laws_heldPortValueS_w (N : Nat) {R : Type} (b : Bool) (n : Int) (l : List PortValue) (k : Int → Option R) : Option R :=
  (c_laws_heldPortValueS_w_0 N b l n (0 : Int) (fun n3 =>
  (k (-(1 : Int)))) (fun n4 =>
  (k n4)))
theorem e_laws_heldPortValueS_w (N : Nat) {R : Type} (b : Bool) (n : Int) (l : List PortValue) (K : AV → Hp E → Option R) :
    runFnI (E := E) (O_laws_heldPortValueS_w N) (IT_laws_heldPortValueS_w_0 N) sl_laws_heldPortValueS_w J_laws_heldPortValueS_w Go.Proofs.Try.f101 [(AV.sc (SV.slc 0 none b)), (AV.sc (SV.int IntKind.i64 n))] [(some (HE.mk false (HB.rows (B.iPortValue l))))] K =
      g_laws_heldPortValueS_w N b n l (fun n5 => K (AV.sc (SV.int IntKind.i64 n5)) [(some (HE.mk false (HB.rows (B.iPortValue l))))]) := by kernel_rfl
noncomputable def o_laws_heldPortValueS_w (N : Nat) {R : Type} (args : List AV) (H : Hp E) (K : AV → Hp E → Option R) : Option R :=
  match args, H with
  | [(AV.sc (SV.slc 0 none b)), (AV.sc (SV.int IntKind.i64 n))], [(some (HE.mk false (HB.rows (B.iPortValue l))))] => g_laws_heldPortValueS_w N b n l (fun n5 => K (AV.sc (SV.int IntKind.i64 n5)) [(some (HE.mk false (HB.rows (B.iPortValue l))))])
  | _, _ => none
theorem o_laws_heldPortValueS_w_ok (N : Nat) : FnOk E 101 (o_laws_heldPortValueS_w N) := by
  intro R args H K r h
  unfold o_laws_heldPortValueS_w at h
  dsimp only at h
  split at h
  · exact fnB_ok (ids := [0]) (top := [0]) ok (O_laws_heldPortValueS_w_ok N) (jn_ok _ _ _) Go.Proofs.Try.func101 (by kernel_rfl) (IT := IT_laws_heldPortValueS_w_0 N) (sl := sl_laws_heldPortValueS_w) (J := J_laws_heldPortValueS_w) (K := K) (H := [(some (HE.mk false (HB.rows (B.iPortValue _))))]) (IT_laws_heldPortValueS_w_0_ok N) (by kernel_rfl) rfl ((e_laws_heldPortValueS_w N _ _ _ K).trans h)
  · cases h
/-! ### loop.example/g00038/laws.heldMachine -/
abbrev sl_laws_heldMachine_wwwww : SlotT := []
abbrev J_laws_heldMachine_wwwww : JT := jn [] [] []
noncomputable def O_laws_heldMachine_wwwww (N : Nat) : Orc E := addFn 101 (o_laws_heldPortValueS_w N) (addFn 66 (o_laws_heldInt64S_w N) (noFn))
noncomputable def pa_laws_heldMachine_wwwww__o_laws_heldPortValueS_w (N : Nat) (G_laws_heldPortValueS_w : ∀ {R : Type} (b : Bool) (n : Int) (l : List PortValue) (k : Int → Option R), Option R) {R : Type} (args : List AV) (H : Hp E) (K : AV → Hp E → Option R) : Option R :=
  match args, H with
  | [(AV.sc (SV.slc 0 none b)), (AV.sc (SV.int IntKind.i64 n))], [(some (HE.mk false (HB.rows (B.iPortValue l))))] => G_laws_heldPortValueS_w b n l (fun n5 => K (AV.sc (SV.int IntKind.i64 n5)) [(some (HE.mk false (HB.rows (B.iPortValue l))))])
  | _, _ => none
noncomputable def pa_laws_heldMachine_wwwww__o_laws_heldInt64S_w (N : Nat) (G_laws_heldInt64S_w : ∀ {R : Type} (b : Bool) (n : Int) (l : List Int) (k : Int → Option R), Option R) {R : Type} (args : List AV) (H : Hp E) (K : AV → Hp E → Option R) : Option R :=
  match args, H with
  | [(AV.sc (SV.slc 0 none b)), (AV.sc (SV.int IntKind.i64 n))], [(some (HE.mk false (HB.rows (B.i64 l))))] => G_laws_heldInt64S_w b n l (fun n5 => K (AV.sc (SV.int IntKind.i64 n5)) [(some (HE.mk false (HB.rows (B.i64 l))))])
  | _, _ => none
noncomputable def OA_laws_heldMachine_wwwww (N : Nat) (G_laws_heldPortValueS_w : ∀ {R : Type} (b : Bool) (n : Int) (l : List PortValue) (k : Int → Option R), Option R) (G_laws_heldInt64S_w : ∀ {R : Type} (b : Bool) (n : Int) (l : List Int) (k : Int → Option R), Option R) : Orc E := addFn 101 (pa_laws_heldMachine_wwwww__o_laws_heldPortValueS_w N G_laws_heldPortValueS_w) (addFn 66 (pa_laws_heldMachine_wwwww__o_laws_heldInt64S_w N G_laws_heldInt64S_w) (noFn))
theorem O_laws_heldMachine_wwwww_ok (N : Nat) : OrcOk (O_laws_heldMachine_wwwww N) := addFn_ok (o_laws_heldPortValueS_w_ok N) (addFn_ok (o_laws_heldInt64S_w_ok N) (noFn_ok))
noncomputable def g_laws_heldMachine_wwwww (N : Nat) {R : Type} (n : Int) (b : Bool) (n1 : Int) (b1 : Bool) (b2 : Bool) (s : ByteArray) (n2 : Int) (n3 : Int) (n4 : Int) (b3 : Bool) (b4 : Bool) (n5 : Int) (n6 : Int) (l : List Int) (l1 : List Int) (l2 : List Int) (l3 : List PortValue) (l4 : List PortValue) (k : Int → Option R) : Option R :=
  (g_laws_heldInt64S_w N b n6 l fun n7 =>
  (cond (decide ((n7 < (0 : Int))))
  (k (-(1 : Int)))
  (g_laws_heldInt64S_w N b1 n7 l1 fun n8 =>
    (cond (decide ((n8 < (0 : Int))))
    (k (-(1 : Int)))
    (g_laws_heldInt64S_w N b2 n8 l2 fun n9 =>
      (cond (decide ((n9 < (0 : Int))))
      (k (-(1 : Int)))
      (g_laws_heldPortValueS_w N b3 n9 l3 fun n10 =>
        (cond (decide ((n10 < (0 : Int))))
        (k (-(1 : Int)))
        (g_laws_heldPortValueS_w N b4 n10 l4 fun n11 =>
          (cond (decide ((n11 < (0 : Int))))
          (k (-(1 : Int)))
          (k n11)))))))))))
noncomputable def ga_g_laws_heldMachine_wwwww (N : Nat) (G_laws_heldPortValueS_w : ∀ {R : Type} (b : Bool) (n : Int) (l : List PortValue) (k : Int → Option R), Option R) (G_laws_heldInt64S_w : ∀ {R : Type} (b : Bool) (n : Int) (l : List Int) (k : Int → Option R), Option R) {R : Type} (n : Int) (b : Bool) (n1 : Int) (b1 : Bool) (b2 : Bool) (s : ByteArray) (n2 : Int) (n3 : Int) (n4 : Int) (b3 : Bool) (b4 : Bool) (n5 : Int) (n6 : Int) (l : List Int) (l1 : List Int) (l2 : List Int) (l3 : List PortValue) (l4 : List PortValue) (k : Int → Option R) : Option R :=
  (G_laws_heldInt64S_w b n6 l fun n7 =>
  (cond (decide ((n7 < (0 : Int))))
  (k (-(1 : Int)))
  (G_laws_heldInt64S_w b1 n7 l1 fun n8 =>
    (cond (decide ((n8 < (0 : Int))))
    (k (-(1 : Int)))
    (G_laws_heldInt64S_w b2 n8 l2 fun n9 =>
      (cond (decide ((n9 < (0 : Int))))
      (k (-(1 : Int)))
      (G_laws_heldPortValueS_w b3 n9 l3 fun n10 =>
        (cond (decide ((n10 < (0 : Int))))
        (k (-(1 : Int)))
        (G_laws_heldPortValueS_w b4 n10 l4 fun n11 =>
          (cond (decide ((n11 < (0 : Int))))
          (k (-(1 : Int)))
          (k n11)))))))))))
theorem ea_e_laws_heldMachine_wwwww (N : Nat) (G_laws_heldPortValueS_w : ∀ {R : Type} (b : Bool) (n : Int) (l : List PortValue) (k : Int → Option R), Option R) (G_laws_heldInt64S_w : ∀ {R : Type} (b : Bool) (n : Int) (l : List Int) (k : Int → Option R), Option R) {R : Type} (n : Int) (b : Bool) (n1 : Int) (b1 : Bool) (b2 : Bool) (s : ByteArray) (n2 : Int) (n3 : Int) (n4 : Int) (b3 : Bool) (b4 : Bool) (n5 : Int) (n6 : Int) (l : List Int) (l1 : List Int) (l2 : List Int) (l3 : List PortValue) (l4 : List PortValue) (K : AV → Hp E → Option R) :
    runFnI (E := E) (OA_laws_heldMachine_wwwww N G_laws_heldPortValueS_w G_laws_heldInt64S_w) (noIt) sl_laws_heldMachine_wwwww J_laws_heldMachine_wwwww Go.Proofs.Try.f65 [(AV.agg [(SV.int IntKind.i64 n), (SV.slc 0 none b), (SV.int IntKind.i64 n1), (SV.slc 1 none b1), (SV.slc 2 none b2), (SV.str s), (SV.int IntKind.i64 n2), (SV.int IntKind.i64 n3), (SV.int IntKind.i64 n4), (SV.slc 3 none b3), (SV.slc 4 none b4), (SV.int IntKind.i64 n5)]), (AV.sc (SV.int IntKind.i64 n6))] [(some (HE.mk false (HB.rows (B.i64 l)))), (some (HE.mk false (HB.rows (B.i64 l1)))), (some (HE.mk false (HB.rows (B.i64 l2)))), (some (HE.mk false (HB.rows (B.iPortValue l3)))), (some (HE.mk false (HB.rows (B.iPortValue l4))))] K =
      ga_g_laws_heldMachine_wwwww N G_laws_heldPortValueS_w G_laws_heldInt64S_w n b n1 b1 b2 s n2 n3 n4 b3 b4 n5 n6 l l1 l2 l3 l4 (fun n12 => K (AV.sc (SV.int IntKind.i64 n12)) [(some (HE.mk false (HB.rows (B.i64 l)))), (some (HE.mk false (HB.rows (B.i64 l1)))), (some (HE.mk false (HB.rows (B.i64 l2)))), (some (HE.mk false (HB.rows (B.iPortValue l3)))), (some (HE.mk false (HB.rows (B.iPortValue l4))))]) := by kernel_rfl
theorem e_laws_heldMachine_wwwww (N : Nat) {R : Type} (n : Int) (b : Bool) (n1 : Int) (b1 : Bool) (b2 : Bool) (s : ByteArray) (n2 : Int) (n3 : Int) (n4 : Int) (b3 : Bool) (b4 : Bool) (n5 : Int) (n6 : Int) (l : List Int) (l1 : List Int) (l2 : List Int) (l3 : List PortValue) (l4 : List PortValue) (K : AV → Hp E → Option R) :
    runFnI (E := E) (O_laws_heldMachine_wwwww N) (noIt) sl_laws_heldMachine_wwwww J_laws_heldMachine_wwwww Go.Proofs.Try.f65 [(AV.agg [(SV.int IntKind.i64 n), (SV.slc 0 none b), (SV.int IntKind.i64 n1), (SV.slc 1 none b1), (SV.slc 2 none b2), (SV.str s), (SV.int IntKind.i64 n2), (SV.int IntKind.i64 n3), (SV.int IntKind.i64 n4), (SV.slc 3 none b3), (SV.slc 4 none b4), (SV.int IntKind.i64 n5)]), (AV.sc (SV.int IntKind.i64 n6))] [(some (HE.mk false (HB.rows (B.i64 l)))), (some (HE.mk false (HB.rows (B.i64 l1)))), (some (HE.mk false (HB.rows (B.i64 l2)))), (some (HE.mk false (HB.rows (B.iPortValue l3)))), (some (HE.mk false (HB.rows (B.iPortValue l4))))] K =
      g_laws_heldMachine_wwwww N n b n1 b1 b2 s n2 n3 n4 b3 b4 n5 n6 l l1 l2 l3 l4 (fun n12 => K (AV.sc (SV.int IntKind.i64 n12)) [(some (HE.mk false (HB.rows (B.i64 l)))), (some (HE.mk false (HB.rows (B.i64 l1)))), (some (HE.mk false (HB.rows (B.i64 l2)))), (some (HE.mk false (HB.rows (B.iPortValue l3)))), (some (HE.mk false (HB.rows (B.iPortValue l4))))]) := castPr (by kernel_rfl) (ea_e_laws_heldMachine_wwwww N (g_laws_heldPortValueS_w N) (g_laws_heldInt64S_w N) n b n1 b1 b2 s n2 n3 n4 b3 b4 n5 n6 l l1 l2 l3 l4 K)
noncomputable def o_laws_heldMachine_wwwww (N : Nat) {R : Type} (args : List AV) (H : Hp E) (K : AV → Hp E → Option R) : Option R :=
  match args, H with
  | [(AV.agg [(SV.int IntKind.i64 n), (SV.slc 0 none b), (SV.int IntKind.i64 n1), (SV.slc 1 none b1), (SV.slc 2 none b2), (SV.str s), (SV.int IntKind.i64 n2), (SV.int IntKind.i64 n3), (SV.int IntKind.i64 n4), (SV.slc 3 none b3), (SV.slc 4 none b4), (SV.int IntKind.i64 n5)]), (AV.sc (SV.int IntKind.i64 n6))], [(some (HE.mk false (HB.rows (B.i64 l)))), (some (HE.mk false (HB.rows (B.i64 l1)))), (some (HE.mk false (HB.rows (B.i64 l2)))), (some (HE.mk false (HB.rows (B.iPortValue l3)))), (some (HE.mk false (HB.rows (B.iPortValue l4))))] => g_laws_heldMachine_wwwww N n b n1 b1 b2 s n2 n3 n4 b3 b4 n5 n6 l l1 l2 l3 l4 (fun n12 => K (AV.sc (SV.int IntKind.i64 n12)) [(some (HE.mk false (HB.rows (B.i64 l)))), (some (HE.mk false (HB.rows (B.i64 l1)))), (some (HE.mk false (HB.rows (B.i64 l2)))), (some (HE.mk false (HB.rows (B.iPortValue l3)))), (some (HE.mk false (HB.rows (B.iPortValue l4))))])
  | _, _ => none
theorem o_laws_heldMachine_wwwww_ok (N : Nat) : FnOk E 65 (o_laws_heldMachine_wwwww N) := by
  intro R args H K r h
  unfold o_laws_heldMachine_wwwww at h
  dsimp only at h
  split at h
  · exact fnB_ok (ids := []) (top := []) ok (O_laws_heldMachine_wwwww_ok N) (jn_ok _ _ _) Go.Proofs.Try.func65 (by kernel_rfl) (IT := noIt) (sl := sl_laws_heldMachine_wwwww) (J := J_laws_heldMachine_wwwww) (K := K) (H := [(some (HE.mk false (HB.rows (B.i64 _)))), (some (HE.mk false (HB.rows (B.i64 _)))), (some (HE.mk false (HB.rows (B.i64 _)))), (some (HE.mk false (HB.rows (B.iPortValue _)))), (some (HE.mk false (HB.rows (B.iPortValue _))))]) (noIt_ok) (by kernel_rfl) rfl ((e_laws_heldMachine_wwwww N _ _ _ _ _ _ _ _ _ _ _ _ _ _ _ _ _ _ K).trans h)
  · cases h
/-! ### loop.example/g00038/laws.heldBooted -/
abbrev sl_laws_heldBooted_wwwwww : SlotT := []
abbrev J_laws_heldBooted_wwwwww : JT := jn [] [] []
noncomputable def O_laws_heldBooted_wwwwww (N : Nat) : Orc E := addFn 66 (o_laws_heldInt64S_w N) (addFn 65 (o_laws_heldMachine_wwwww N) (noFn))
noncomputable def pa_laws_heldBooted_wwwwww__o_laws_heldInt64S_w (N : Nat) (G_laws_heldInt64S_w : ∀ {R : Type} (b : Bool) (n : Int) (l : List Int) (k : Int → Option R), Option R) {R : Type} (args : List AV) (H : Hp E) (K : AV → Hp E → Option R) : Option R :=
  match args, H with
  | [(AV.sc (SV.slc 0 none b)), (AV.sc (SV.int IntKind.i64 n))], [(some (HE.mk false (HB.rows (B.i64 l))))] => G_laws_heldInt64S_w b n l (fun n5 => K (AV.sc (SV.int IntKind.i64 n5)) [(some (HE.mk false (HB.rows (B.i64 l))))])
  | _, _ => none
noncomputable def pa_laws_heldBooted_wwwwww__o_laws_heldMachine_wwwww (N : Nat) (G_laws_heldMachine_wwwww : ∀ {R : Type} (n : Int) (b : Bool) (n1 : Int) (b1 : Bool) (b2 : Bool) (s : ByteArray) (n2 : Int) (n3 : Int) (n4 : Int) (b3 : Bool) (b4 : Bool) (n5 : Int) (n6 : Int) (l : List Int) (l1 : List Int) (l2 : List Int) (l3 : List PortValue) (l4 : List PortValue) (k : Int → Option R), Option R) {R : Type} (args : List AV) (H : Hp E) (K : AV → Hp E → Option R) : Option R :=
  match args, H with
  | [(AV.agg [(SV.int IntKind.i64 n), (SV.slc 0 none b), (SV.int IntKind.i64 n1), (SV.slc 1 none b1), (SV.slc 2 none b2), (SV.str s), (SV.int IntKind.i64 n2), (SV.int IntKind.i64 n3), (SV.int IntKind.i64 n4), (SV.slc 3 none b3), (SV.slc 4 none b4), (SV.int IntKind.i64 n5)]), (AV.sc (SV.int IntKind.i64 n6))], [(some (HE.mk false (HB.rows (B.i64 l)))), (some (HE.mk false (HB.rows (B.i64 l1)))), (some (HE.mk false (HB.rows (B.i64 l2)))), (some (HE.mk false (HB.rows (B.iPortValue l3)))), (some (HE.mk false (HB.rows (B.iPortValue l4))))] => G_laws_heldMachine_wwwww n b n1 b1 b2 s n2 n3 n4 b3 b4 n5 n6 l l1 l2 l3 l4 (fun n12 => K (AV.sc (SV.int IntKind.i64 n12)) [(some (HE.mk false (HB.rows (B.i64 l)))), (some (HE.mk false (HB.rows (B.i64 l1)))), (some (HE.mk false (HB.rows (B.i64 l2)))), (some (HE.mk false (HB.rows (B.iPortValue l3)))), (some (HE.mk false (HB.rows (B.iPortValue l4))))])
  | _, _ => none
noncomputable def OA_laws_heldBooted_wwwwww (N : Nat) (G_laws_heldInt64S_w : ∀ {R : Type} (b : Bool) (n : Int) (l : List Int) (k : Int → Option R), Option R) (G_laws_heldMachine_wwwww : ∀ {R : Type} (n : Int) (b : Bool) (n1 : Int) (b1 : Bool) (b2 : Bool) (s : ByteArray) (n2 : Int) (n3 : Int) (n4 : Int) (b3 : Bool) (b4 : Bool) (n5 : Int) (n6 : Int) (l : List Int) (l1 : List Int) (l2 : List Int) (l3 : List PortValue) (l4 : List PortValue) (k : Int → Option R), Option R) : Orc E := addFn 66 (pa_laws_heldBooted_wwwwww__o_laws_heldInt64S_w N G_laws_heldInt64S_w) (addFn 65 (pa_laws_heldBooted_wwwwww__o_laws_heldMachine_wwwww N G_laws_heldMachine_wwwww) (noFn))
theorem O_laws_heldBooted_wwwwww_ok (N : Nat) : OrcOk (O_laws_heldBooted_wwwwww N) := addFn_ok (o_laws_heldInt64S_w_ok N) (addFn_ok (o_laws_heldMachine_wwwww_ok N) (noFn_ok))
noncomputable def g_laws_heldBooted_wwwwww (N : Nat) {R : Type} (n : Int) (n1 : Int) (b : Bool) (n2 : Int) (b1 : Bool) (b2 : Bool) (s : ByteArray) (n3 : Int) (n4 : Int) (n5 : Int) (b3 : Bool) (b4 : Bool) (n6 : Int) (b5 : Bool) (n7 : Int) (l : List Int) (l1 : List Int) (l2 : List Int) (l3 : List PortValue) (l4 : List PortValue) (l5 : List Int) (k : Int → Option R) : Option R :=
  (g_laws_heldMachine_wwwww N n1 b n2 b1 b2 s n3 n4 n5 b3 b4 n6 n7 l l1 l2 l3 l4 fun n8 =>
  (cond (decide ((n8 < (0 : Int))))
  (k (-(1 : Int)))
  (g_laws_heldInt64S_w N b5 n8 l5 fun n9 =>
    (cond (decide ((n9 < (0 : Int))))
    (k (-(1 : Int)))
    (k n9)))))
noncomputable def ga_g_laws_heldBooted_wwwwww (N : Nat) (G_laws_heldInt64S_w : ∀ {R : Type} (b : Bool) (n : Int) (l : List Int) (k : Int → Option R), Option R) (G_laws_heldMachine_wwwww : ∀ {R : Type} (n : Int) (b : Bool) (n1 : Int) (b1 : Bool) (b2 : Bool) (s : ByteArray) (n2 : Int) (n3 : Int) (n4 : Int) (b3 : Bool) (b4 : Bool) (n5 : Int) (n6 : Int) (l : List Int) (l1 : List Int) (l2 : List Int) (l3 : List PortValue) (l4 : List PortValue) (k : Int → Option R), Option R) {R : Type} (n : Int) (n1 : Int) (b : Bool) (n2 : Int) (b1 : Bool) (b2 : Bool) (s : ByteArray) (n3 : Int) (n4 : Int) (n5 : Int) (b3 : Bool) (b4 : Bool) (n6 : Int) (b5 : Bool) (n7 : Int) (l : List Int) (l1 : List Int) (l2 : List Int) (l3 : List PortValue) (l4 : List PortValue) (l5 : List Int) (k : Int → Option R) : Option R :=
  (G_laws_heldMachine_wwwww n1 b n2 b1 b2 s n3 n4 n5 b3 b4 n6 n7 l l1 l2 l3 l4 fun n8 =>
  (cond (decide ((n8 < (0 : Int))))
  (k (-(1 : Int)))
  (G_laws_heldInt64S_w b5 n8 l5 fun n9 =>
    (cond (decide ((n9 < (0 : Int))))
    (k (-(1 : Int)))
    (k n9)))))
theorem ea_e_laws_heldBooted_wwwwww (N : Nat) (G_laws_heldInt64S_w : ∀ {R : Type} (b : Bool) (n : Int) (l : List Int) (k : Int → Option R), Option R) (G_laws_heldMachine_wwwww : ∀ {R : Type} (n : Int) (b : Bool) (n1 : Int) (b1 : Bool) (b2 : Bool) (s : ByteArray) (n2 : Int) (n3 : Int) (n4 : Int) (b3 : Bool) (b4 : Bool) (n5 : Int) (n6 : Int) (l : List Int) (l1 : List Int) (l2 : List Int) (l3 : List PortValue) (l4 : List PortValue) (k : Int → Option R), Option R) {R : Type} (n : Int) (n1 : Int) (b : Bool) (n2 : Int) (b1 : Bool) (b2 : Bool) (s : ByteArray) (n3 : Int) (n4 : Int) (n5 : Int) (b3 : Bool) (b4 : Bool) (n6 : Int) (b5 : Bool) (n7 : Int) (l : List Int) (l1 : List Int) (l2 : List Int) (l3 : List PortValue) (l4 : List PortValue) (l5 : List Int) (K : AV → Hp E → Option R) :
    runFnI (E := E) (OA_laws_heldBooted_wwwwww N G_laws_heldInt64S_w G_laws_heldMachine_wwwww) (noIt) sl_laws_heldBooted_wwwwww J_laws_heldBooted_wwwwww Go.Proofs.Try.f21 [(AV.agg [(SV.int IntKind.i64 n), (SV.int IntKind.i64 n1), (SV.slc 0 none b), (SV.int IntKind.i64 n2), (SV.slc 1 none b1), (SV.slc 2 none b2), (SV.str s), (SV.int IntKind.i64 n3), (SV.int IntKind.i64 n4), (SV.int IntKind.i64 n5), (SV.slc 3 none b3), (SV.slc 4 none b4), (SV.int IntKind.i64 n6), (SV.slc 5 none b5)]), (AV.sc (SV.int IntKind.i64 n7))] [(some (HE.mk false (HB.rows (B.i64 l)))), (some (HE.mk false (HB.rows (B.i64 l1)))), (some (HE.mk false (HB.rows (B.i64 l2)))), (some (HE.mk false (HB.rows (B.iPortValue l3)))), (some (HE.mk false (HB.rows (B.iPortValue l4)))), (some (HE.mk false (HB.rows (B.i64 l5))))] K =
      ga_g_laws_heldBooted_wwwwww N G_laws_heldInt64S_w G_laws_heldMachine_wwwww n n1 b n2 b1 b2 s n3 n4 n5 b3 b4 n6 b5 n7 l l1 l2 l3 l4 l5 (fun n10 => K (AV.sc (SV.int IntKind.i64 n10)) [(some (HE.mk false (HB.rows (B.i64 l)))), (some (HE.mk false (HB.rows (B.i64 l1)))), (some (HE.mk false (HB.rows (B.i64 l2)))), (some (HE.mk false (HB.rows (B.iPortValue l3)))), (some (HE.mk false (HB.rows (B.iPortValue l4)))), (some (HE.mk false (HB.rows (B.i64 l5))))]) := by kernel_rfl
theorem e_laws_heldBooted_wwwwww (N : Nat) {R : Type} (n : Int) (n1 : Int) (b : Bool) (n2 : Int) (b1 : Bool) (b2 : Bool) (s : ByteArray) (n3 : Int) (n4 : Int) (n5 : Int) (b3 : Bool) (b4 : Bool) (n6 : Int) (b5 : Bool) (n7 : Int) (l : List Int) (l1 : List Int) (l2 : List Int) (l3 : List PortValue) (l4 : List PortValue) (l5 : List Int) (K : AV → Hp E → Option R) :
    runFnI (E := E) (O_laws_heldBooted_wwwwww N) (noIt) sl_laws_heldBooted_wwwwww J_laws_heldBooted_wwwwww Go.Proofs.Try.f21 [(AV.agg [(SV.int IntKind.i64 n), (SV.int IntKind.i64 n1), (SV.slc 0 none b), (SV.int IntKind.i64 n2), (SV.slc 1 none b1), (SV.slc 2 none b2), (SV.str s), (SV.int IntKind.i64 n3), (SV.int IntKind.i64 n4), (SV.int IntKind.i64 n5), (SV.slc 3 none b3), (SV.slc 4 none b4), (SV.int IntKind.i64 n6), (SV.slc 5 none b5)]), (AV.sc (SV.int IntKind.i64 n7))] [(some (HE.mk false (HB.rows (B.i64 l)))), (some (HE.mk false (HB.rows (B.i64 l1)))), (some (HE.mk false (HB.rows (B.i64 l2)))), (some (HE.mk false (HB.rows (B.iPortValue l3)))), (some (HE.mk false (HB.rows (B.iPortValue l4)))), (some (HE.mk false (HB.rows (B.i64 l5))))] K =
      g_laws_heldBooted_wwwwww N n n1 b n2 b1 b2 s n3 n4 n5 b3 b4 n6 b5 n7 l l1 l2 l3 l4 l5 (fun n10 => K (AV.sc (SV.int IntKind.i64 n10)) [(some (HE.mk false (HB.rows (B.i64 l)))), (some (HE.mk false (HB.rows (B.i64 l1)))), (some (HE.mk false (HB.rows (B.i64 l2)))), (some (HE.mk false (HB.rows (B.iPortValue l3)))), (some (HE.mk false (HB.rows (B.iPortValue l4)))), (some (HE.mk false (HB.rows (B.i64 l5))))]) := castPr (by kernel_rfl) (ea_e_laws_heldBooted_wwwwww N (g_laws_heldInt64S_w N) (g_laws_heldMachine_wwwww N) n n1 b n2 b1 b2 s n3 n4 n5 b3 b4 n6 b5 n7 l l1 l2 l3 l4 l5 K)
noncomputable def o_laws_heldBooted_wwwwww (N : Nat) {R : Type} (args : List AV) (H : Hp E) (K : AV → Hp E → Option R) : Option R :=
  match args, H with
  | [(AV.agg [(SV.int IntKind.i64 n), (SV.int IntKind.i64 n1), (SV.slc 0 none b), (SV.int IntKind.i64 n2), (SV.slc 1 none b1), (SV.slc 2 none b2), (SV.str s), (SV.int IntKind.i64 n3), (SV.int IntKind.i64 n4), (SV.int IntKind.i64 n5), (SV.slc 3 none b3), (SV.slc 4 none b4), (SV.int IntKind.i64 n6), (SV.slc 5 none b5)]), (AV.sc (SV.int IntKind.i64 n7))], [(some (HE.mk false (HB.rows (B.i64 l)))), (some (HE.mk false (HB.rows (B.i64 l1)))), (some (HE.mk false (HB.rows (B.i64 l2)))), (some (HE.mk false (HB.rows (B.iPortValue l3)))), (some (HE.mk false (HB.rows (B.iPortValue l4)))), (some (HE.mk false (HB.rows (B.i64 l5))))] => g_laws_heldBooted_wwwwww N n n1 b n2 b1 b2 s n3 n4 n5 b3 b4 n6 b5 n7 l l1 l2 l3 l4 l5 (fun n10 => K (AV.sc (SV.int IntKind.i64 n10)) [(some (HE.mk false (HB.rows (B.i64 l)))), (some (HE.mk false (HB.rows (B.i64 l1)))), (some (HE.mk false (HB.rows (B.i64 l2)))), (some (HE.mk false (HB.rows (B.iPortValue l3)))), (some (HE.mk false (HB.rows (B.iPortValue l4)))), (some (HE.mk false (HB.rows (B.i64 l5))))])
  | _, _ => none
theorem o_laws_heldBooted_wwwwww_ok (N : Nat) : FnOk E 21 (o_laws_heldBooted_wwwwww N) := by
  intro R args H K r h
  unfold o_laws_heldBooted_wwwwww at h
  dsimp only at h
  split at h
  · exact fnB_ok (ids := []) (top := []) ok (O_laws_heldBooted_wwwwww_ok N) (jn_ok _ _ _) Go.Proofs.Try.func21 (by kernel_rfl) (IT := noIt) (sl := sl_laws_heldBooted_wwwwww) (J := J_laws_heldBooted_wwwwww) (K := K) (H := [(some (HE.mk false (HB.rows (B.i64 _)))), (some (HE.mk false (HB.rows (B.i64 _)))), (some (HE.mk false (HB.rows (B.i64 _)))), (some (HE.mk false (HB.rows (B.iPortValue _)))), (some (HE.mk false (HB.rows (B.iPortValue _)))), (some (HE.mk false (HB.rows (B.i64 _))))]) (noIt_ok) (by kernel_rfl) rfl ((e_laws_heldBooted_wwwwww N _ _ _ _ _ _ _ _ _ _ _ _ _ _ _ _ _ _ _ _ _ K).trans h)
  · cases h
end Go.Sa
