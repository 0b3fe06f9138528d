import Derived.Test.YtnopbegjbbbdhaaSpec
import Derived.Test.YtnopbegjbbbdhaaPLb
import Derived.Test.YtnopbegjbbbdhaaW0
set_option linter.all false
namespace Go.Sa
open Go Go.Eng Go.Proofs
set_option maxRecDepth 100000
/-! ### loop.example/g00038/laws.markEventS -/
abbrev sl_laws_markEventS_w : SlotT := [(0, ([0, 1, 5], [1]))]
abbrev J_laws_markEventS_w : JT := jn [] [] []
noncomputable def O_laws_markEventS_w (N : Nat) : Orc E := noFn
theorem O_laws_markEventS_w_ok (N : Nat) : OrcOk (O_laws_markEventS_w N) := noFn_ok
def s_laws_markEventS_w_0 (N : Nat) {R : Type} (b1 : Bool) (n1 : Int) (n2 : Int) (l1 : List Go.Sa.Event) (ag : Int → Int → (List Go.Sa.Event) → Option R)  (kN : Int → (List Go.Sa.Event) → Option R) : Option R :=
  (cond (decide ((n2 < (((List.length l1) : Nat) : Int))))
  (cond ((decide (((0 : Int) ≤ n2))) && (decide ((n2 < (((List.length l1) : Nat) : Int)))))
    (elemK l1 (Int.toNat n2) fun x =>
      (cond (Nat.blt (Int.toNat n2) (List.length l1))
      (cond ((decide (((0 : Int) ≤ n2))) && (decide ((n2 < (((List.length (Go.Eng.nset l1 (Int.toNat n2) (Go.Sa.Event.mk n1 (Go.Sa.Event.fKind x) (Go.Sa.Event.fNum x) (Go.Sa.Event.fValue x)))) : Nat) : Int)))))
        (elemK (Go.Eng.nset l1 (Int.toNat n2) (Go.Sa.Event.mk n1 (Go.Sa.Event.fKind x) (Go.Sa.Event.fNum x) (Go.Sa.Event.fValue x))) (Int.toNat n2) fun x1 =>
          (cond (Nat.blt (Int.toNat n2) (List.length (Go.Eng.nset l1 (Int.toNat n2) (Go.Sa.Event.mk n1 (Go.Sa.Event.fKind x) (Go.Sa.Event.fNum x) (Go.Sa.Event.fValue x)))))
          (cond ((decide (((0 : Int) ≤ n2))) && (decide ((n2 < (((List.length (Go.Eng.nset (Go.Eng.nset l1 (Int.toNat n2) (Go.Sa.Event.mk n1 (Go.Sa.Event.fKind x) (Go.Sa.Event.fNum x) (Go.Sa.Event.fValue x))) (Int.toNat n2) (Go.Sa.Event.mk (Go.Sa.Event.fAt x1) (Go.IntKind.wrap Go.IntKind.i64 (n1 + (1 : Int))) (Go.Sa.Event.fNum x1) (Go.Sa.Event.fValue x1)))) : Nat) : Int)))))
            (elemK (Go.Eng.nset (Go.Eng.nset l1 (Int.toNat n2) (Go.Sa.Event.mk n1 (Go.Sa.Event.fKind x) (Go.Sa.Event.fNum x) (Go.Sa.Event.fValue x))) (Int.toNat n2) (Go.Sa.Event.mk (Go.Sa.Event.fAt x1) (Go.IntKind.wrap Go.IntKind.i64 (n1 + (1 : Int))) (Go.Sa.Event.fNum x1) (Go.Sa.Event.fValue x1))) (Int.toNat n2) fun x2 =>
              (cond (Nat.blt (Int.toNat n2) (List.length (Go.Eng.nset (Go.Eng.nset l1 (Int.toNat n2) (Go.Sa.Event.mk n1 (Go.Sa.Event.fKind x) (Go.Sa.Event.fNum x) (Go.Sa.Event.fValue x))) (Int.toNat n2) (Go.Sa.Event.mk (Go.Sa.Event.fAt x1) (Go.IntKind.wrap Go.IntKind.i64 (n1 + (1 : Int))) (Go.Sa.Event.fNum x1) (Go.Sa.Event.fValue x1)))))
              (cond ((decide (((0 : Int) ≤ n2))) && (decide ((n2 < (((List.length (Go.Eng.nset (Go.Eng.nset (Go.Eng.nset l1 (Int.toNat n2) (Go.Sa.Event.mk n1 (Go.Sa.Event.fKind x) (Go.Sa.Event.fNum x) (Go.Sa.Event.fValue x))) (Int.toNat n2) (Go.Sa.Event.mk (Go.Sa.Event.fAt x1) (Go.IntKind.wrap Go.IntKind.i64 (n1 + (1 : Int))) (Go.Sa.Event.fNum x1) (Go.Sa.Event.fValue x1))) (Int.toNat n2) (Go.Sa.Event.mk (Go.Sa.Event.fAt x2) (Go.Sa.Event.fKind x2) (Go.IntKind.wrap Go.IntKind.i64 ((Go.IntKind.wrap Go.IntKind.i64 (n1 + (1 : Int))) + (1 : Int))) (Go.Sa.Event.fValue x2)))) : Nat) : Int)))))
                (elemK (Go.Eng.nset (Go.Eng.nset (Go.Eng.nset l1 (Int.toNat n2) (Go.Sa.Event.mk n1 (Go.Sa.Event.fKind x) (Go.Sa.Event.fNum x) (Go.Sa.Event.fValue x))) (Int.toNat n2) (Go.Sa.Event.mk (Go.Sa.Event.fAt x1) (Go.IntKind.wrap Go.IntKind.i64 (n1 + (1 : Int))) (Go.Sa.Event.fNum x1) (Go.Sa.Event.fValue x1))) (Int.toNat n2) (Go.Sa.Event.mk (Go.Sa.Event.fAt x2) (Go.Sa.Event.fKind x2) (Go.IntKind.wrap Go.IntKind.i64 ((Go.IntKind.wrap Go.IntKind.i64 (n1 + (1 : Int))) + (1 : Int))) (Go.Sa.Event.fValue x2))) (Int.toNat n2) fun x3 =>
                  (cond (Nat.blt (Int.toNat n2) (List.length (Go.Eng.nset (Go.Eng.nset (Go.Eng.nset l1 (Int.toNat n2) (Go.Sa.Event.mk n1 (Go.Sa.Event.fKind x) (Go.Sa.Event.fNum x) (Go.Sa.Event.fValue x))) (Int.toNat n2) (Go.Sa.Event.mk (Go.Sa.Event.fAt x1) (Go.IntKind.wrap Go.IntKind.i64 (n1 + (1 : Int))) (Go.Sa.Event.fNum x1) (Go.Sa.Event.fValue x1))) (Int.toNat n2) (Go.Sa.Event.mk (Go.Sa.Event.fAt x2) (Go.Sa.Event.fKind x2) (Go.IntKind.wrap Go.IntKind.i64 ((Go.IntKind.wrap Go.IntKind.i64 (n1 + (1 : Int))) + (1 : Int))) (Go.Sa.Event.fValue x2)))))
                  (ag (Go.IntKind.wrap Go.IntKind.i64 ((Go.IntKind.wrap Go.IntKind.i64 ((Go.IntKind.wrap Go.IntKind.i64 ((Go.IntKind.wrap Go.IntKind.i64 (n1 + (1 : Int))) + (1 : Int))) + (1 : Int))) + (1 : Int))) (Go.IntKind.wrap Go.IntKind.i64 (n2 + (1 : Int))) (Go.Eng.nset (Go.Eng.nset (Go.Eng.nset (Go.Eng.nset l1 (Int.toNat n2) (Go.Sa.Event.mk n1 (Go.Sa.Event.fKind x) (Go.Sa.Event.fNum x) (Go.Sa.Event.fValue x))) (Int.toNat n2) (Go.Sa.Event.mk (Go.Sa.Event.fAt x1) (Go.IntKind.wrap Go.IntKind.i64 (n1 + (1 : Int))) (Go.Sa.Event.fNum x1) (Go.Sa.Event.fValue x1))) (Int.toNat n2) (Go.Sa.Event.mk (Go.Sa.Event.fAt x2) (Go.Sa.Event.fKind x2) (Go.IntKind.wrap Go.IntKind.i64 ((Go.IntKind.wrap Go.IntKind.i64 (n1 + (1 : Int))) + (1 : Int))) (Go.Sa.Event.fValue x2))) (Int.toNat n2) (Go.Sa.Event.mk (Go.Sa.Event.fAt x3) (Go.Sa.Event.fKind x3) (Go.Sa.Event.fNum x3) (Go.IntKind.wrap Go.IntKind.i64 ((Go.IntKind.wrap Go.IntKind.i64 ((Go.IntKind.wrap Go.IntKind.i64 (n1 + (1 : Int))) + (1 : Int))) + (1 : Int))))))
                  none))
                none)
              none))
            none)
          none))
        none)
      none))
    none)
  (kN n1 l1))
def l_laws_markEventS_w_0 (N : Nat) {R : Type} (b1 : Bool) (kN : Int → (List Go.Sa.Event) → Option R) : Nat → Int → Int → (List Go.Sa.Event) → Option R
  | 0, _, _, _ => none
  | f + 1, n1, n2, l1 => s_laws_markEventS_w_0 N b1 n1 n2 l1 (fun n1 n2 l1 => l_laws_markEventS_w_0 N b1 kN f n1 n2 l1)  kN
def c_laws_markEventS_w_0 (N : Nat) {R : Type} (b1 : Bool) (n1 : Int) (n2 : Int) (l1 : List Go.Sa.Event) (kN : Int → (List Go.Sa.Event) → Option R) : Option R := l_laws_markEventS_w_0 N b1 kN N n1 n2 l1
theorem se_laws_markEventS_w_0 (N : Nat) {R : Type} (b1 : Bool) (n1 : Int) (n2 : Int) (l1 : List Go.Sa.Event) (AG : List (Option AV) → Hp E → Option R) (KL : Ex → List (Option AV) → Hp E → Option R) :
    iterStep (E := E) (O_laws_markEventS_w N) (fun {R} => LI (noIt) 1 41 sl_laws_markEventS_w (R := R)) J_laws_markEventS_w 1 41 0 [0, 1, 5] [1] (body Go.Proofs.Try.f52 0) AG KL [(Option.some (Go.Eng.AV.sc (Go.Eng.SV.slc 0 Option.none b1))), (Option.some (Go.Eng.AV.sc (Go.Eng.SV.int Go.IntKind.i64 n1))), (Option.some (Go.Eng.AV.sc (Go.Eng.SV.int Go.IntKind.i64 n2)))] [(Option.some (Go.Eng.HE.mk Bool.false (Go.Eng.HB.rows (Go.Sa.B.iEvent l1))))] =
      s_laws_markEventS_w_0 N b1 n1 n2 l1 (fun n1 n2 l1 => AG [(Option.some (Go.Eng.AV.sc (Go.Eng.SV.slc 0 Option.none b1))), (Option.some (Go.Eng.AV.sc (Go.Eng.SV.int Go.IntKind.i64 n1))), (Option.some (Go.Eng.AV.sc (Go.Eng.SV.int Go.IntKind.i64 n2)))] [(Option.some (Go.Eng.HE.mk Bool.false (Go.Eng.HB.rows (Go.Sa.B.iEvent l1))))])  (fun n5 l4 => KL Go.Eng.Ex.normal [(Option.some (Go.Eng.AV.sc (Go.Eng.SV.int Go.IntKind.i64 n5)))] [(Option.some (Go.Eng.HE.mk Bool.false (Go.Eng.HB.rows (Go.Sa.B.iEvent l4))))]) := by kernel_rfl
theorem le_laws_markEventS_w_0 (N : Nat) {R : Type} (b1 : Bool) (KL : Ex → List (Option AV) → Hp E → Option R) : ∀ (f : Nat), ∀ (n1 : Int) (n2 : Int) (l1 : List Go.Sa.Event), iterK (E := E) (O_laws_markEventS_w N) (fun {R} => LI (noIt) 1 41 sl_laws_markEventS_w (R := R)) J_laws_markEventS_w 1 41 0 [0, 1, 5] [1] (body Go.Proofs.Try.f52 0) f [(Option.some (Go.Eng.AV.sc (Go.Eng.SV.slc 0 Option.none b1))), (Option.some (Go.Eng.AV.sc (Go.Eng.SV.int Go.IntKind.i64 n1))), (Option.some (Go.Eng.AV.sc (Go.Eng.SV.int Go.IntKind.i64 n2)))] [(Option.some (Go.Eng.HE.mk Bool.false (Go.Eng.HB.rows (Go.Sa.B.iEvent l1))))] KL = l_laws_markEventS_w_0 N b1 (fun n5 l4 => KL Go.Eng.Ex.normal [(Option.some (Go.Eng.AV.sc (Go.Eng.SV.int Go.IntKind.i64 n5)))] [(Option.some (Go.Eng.HE.mk Bool.false (Go.Eng.HB.rows (Go.Sa.B.iEvent l4))))]) f n1 n2 l1 := by
  intro f
  induction f with
  | zero => intros; rfl
  | succ f ih =>
    intro n1 n2 l1
    rw [iterK_succ, se_laws_markEventS_w_0]
    exact (congrArg (fun z0 => s_laws_markEventS_w_0 N b1 n1 n2 l1 z0 (fun n5 l4 => KL Go.Eng.Ex.normal [(Option.some (Go.Eng.AV.sc (Go.Eng.SV.int Go.IntKind.i64 n5)))] [(Option.some (Go.Eng.HE.mk Bool.false (Go.Eng.HB.rows (Go.Sa.B.iEvent l4))))])) (funext fun n1 => funext fun n2 => funext fun l1 => ih n1 n2 l1))
def i_laws_markEventS_w_0 (N : Nat) {R : Type} (vs : List (Option AV)) (H : Hp E) (KL : Ex → List (Option AV) → Hp E → Option R) : Option R :=
  match vs, H with
  | [(Option.some (Go.Eng.AV.sc (Go.Eng.SV.slc 0 Option.none b1))), (Option.some (Go.Eng.AV.sc (Go.Eng.SV.int Go.IntKind.i64 n1))), (Option.some (Go.Eng.AV.sc (Go.Eng.SV.int Go.IntKind.i64 n2)))], [(Option.some (Go.Eng.HE.mk Bool.false (Go.Eng.HB.rows (Go.Sa.B.iEvent l1))))] => c_laws_markEventS_w_0 N b1 n1 n2 l1 (fun n6 l5 => KL Go.Eng.Ex.normal [(Option.some (Go.Eng.AV.sc (Go.Eng.SV.int Go.IntKind.i64 n6)))] [(Option.some (Go.Eng.HE.mk Bool.false (Go.Eng.HB.rows (Go.Sa.B.iEvent l5))))])
  | _, _ => none
noncomputable def IT_laws_markEventS_w_0 (N : Nat) : Its E := addIt 0 (i_laws_markEventS_w_0 N) (noIt)
theorem IT_laws_markEventS_w_0_ok (N : Nat) : ItOk (IT_laws_markEventS_w_0 N) 1 41 sl_laws_markEventS_w (lsB Go.Proofs.Try.f52 [0]) :=
  addItB_ok (inner := []) ok (O_laws_markEventS_w_ok N) (jn_ok _ _ _) (noIt_ok) rfl (by kernel_rfl) rfl fun vs H KL r h => by
    unfold i_laws_markEventS_w_0 at h
    split at h
    · exact ⟨_, (le_laws_markEventS_w_0 N _ KL N _ _ _).trans h⟩
    · cases h
def g_laws_markEventS_w (N : Nat) {R : Type} (b : Bool) (n : Int) (l : List Go.Sa.Event) (k : Int → (List Go.Sa.Event) → Option R) : Option R :=
  (c_laws_markEventS_w_0 N b n (0 : Int) l fun n3 l2 =>
  (k n3 l2))
theorem e_laws_markEventS_w (N : Nat) {R : Type} (b : Bool) (n : Int) (l : List Go.Sa.Event) (K : AV → Hp E → Option R) :
    runFnI (E := E) (O_laws_markEventS_w N) (IT_laws_markEventS_w_0 N) sl_laws_markEventS_w J_laws_markEventS_w Go.Proofs.Try.f52 [(Go.Eng.AV.sc (Go.Eng.SV.slc 0 Option.none b)), (Go.Eng.AV.sc (Go.Eng.SV.int Go.IntKind.i64 n))] [(Option.some (Go.Eng.HE.mk Bool.false (Go.Eng.HB.rows (Go.Sa.B.iEvent l))))] K =
      g_laws_markEventS_w N b n l (fun n4 l3 => K (Go.Eng.AV.sc (Go.Eng.SV.int Go.IntKind.i64 n4)) [(Option.some (Go.Eng.HE.mk Bool.false (Go.Eng.HB.rows (Go.Sa.B.iEvent l3))))]) := by kernel_rfl
def o_laws_markEventS_w (N : Nat) {R : Type} (args : List AV) (H : Hp E) (K : AV → Hp E → Option R) : Option R :=
  match args, H with
  | [(Go.Eng.AV.sc (Go.Eng.SV.slc 0 Option.none b)), (Go.Eng.AV.sc (Go.Eng.SV.int Go.IntKind.i64 n))], [(Option.some (Go.Eng.HE.mk Bool.false (Go.Eng.HB.rows (Go.Sa.B.iEvent l))))] => g_laws_markEventS_w N b n l (fun n4 l3 => K (Go.Eng.AV.sc (Go.Eng.SV.int Go.IntKind.i64 n4)) [(Option.some (Go.Eng.HE.mk Bool.false (Go.Eng.HB.rows (Go.Sa.B.iEvent l3))))])
  | _, _ => none
theorem o_laws_markEventS_w_ok (N : Nat) : FnOk E 52 (o_laws_markEventS_w N) := by
  intro R args H K r h
  unfold o_laws_markEventS_w at h
  dsimp only at h
  split at h
  · exact fnB_ok (ids := [0]) (top := [0]) ok (O_laws_markEventS_w_ok N) (jn_ok _ _ _) Go.Proofs.Try.func52 (by kernel_rfl) (IT := IT_laws_markEventS_w_0 N) (sl := sl_laws_markEventS_w) (J := J_laws_markEventS_w) (K := K) (H := [(Option.some (Go.Eng.HE.mk Bool.false (Go.Eng.HB.rows (Go.Sa.B.iEvent _))))]) (IT_laws_markEventS_w_0_ok N) (by kernel_rfl) rfl ((e_laws_markEventS_w N _ _ _ K).trans h)
  · cases h
/-! ### loop.example/g00038/laws.heldEventS -/
abbrev sl_laws_heldEventS_w : SlotT := [(0, ([0, 1, 5], [1, 4]))]
abbrev J_laws_heldEventS_w : JT := jn [] [] []
noncomputable def O_laws_heldEventS_w (N : Nat) : Orc E := noFn
theorem O_laws_heldEventS_w_ok (N : Nat) : OrcOk (O_laws_heldEventS_w N) := noFn_ok
def s_laws_heldEventS_w_0 (N : Nat) {R : Type} (b1 : Bool) (l1 : List Go.Sa.Event) (n1 : Int) (n2 : Int) (ag : Int → Int → Option R)  (kR : Int → Option R) (kN : Int → Option R) : Option R :=
  (cond (decide ((n2 < (((List.length l1) : Nat) : Int))))
  (cond ((decide (((0 : Int) ≤ n2))) && (decide ((n2 < (((List.length l1) : Nat) : Int)))))
    (elemK l1 (Int.toNat n2) fun x =>
      (cond ((Go.Sa.Event.fAt x) != n1)
      (kR n1)
      (cond ((decide (((0 : Int) ≤ n2))) && (decide ((n2 < (((List.length l1) : Nat) : Int)))))
        (elemK l1 (Int.toNat n2) fun x1 =>
          (cond ((Go.Sa.Event.fKind x1) != (Go.IntKind.wrap Go.IntKind.i64 (n1 + (1 : Int))))
          (kR (Go.IntKind.wrap Go.IntKind.i64 (n1 + (1 : Int))))
          (cond ((decide (((0 : Int) ≤ n2))) && (decide ((n2 < (((List.length l1) : Nat) : Int)))))
            (elemK l1 (Int.toNat n2) fun x2 =>
              (cond ((Go.Sa.Event.fNum x2) != (Go.IntKind.wrap Go.IntKind.i64 ((Go.IntKind.wrap Go.IntKind.i64 (n1 + (1 : Int))) + (1 : Int))))
              (kR (Go.IntKind.wrap Go.IntKind.i64 ((Go.IntKind.wrap Go.IntKind.i64 (n1 + (1 : Int))) + (1 : Int))))
              (cond ((decide (((0 : Int) ≤ n2))) && (decide ((n2 < (((List.length l1) : Nat) : Int)))))
                (elemK l1 (Int.toNat n2) fun x3 =>
                  (cond ((Go.Sa.Event.fValue x3) != (Go.IntKind.wrap Go.IntKind.i64 ((Go.IntKind.wrap Go.IntKind.i64 ((Go.IntKind.wrap Go.IntKind.i64 (n1 + (1 : Int))) + (1 : Int))) + (1 : Int))))
                  (kR (Go.IntKind.wrap Go.IntKind.i64 ((Go.IntKind.wrap Go.IntKind.i64 ((Go.IntKind.wrap Go.IntKind.i64 (n1 + (1 : Int))) + (1 : Int))) + (1 : Int))))
                  (ag (Go.IntKind.wrap Go.IntKind.i64 ((Go.IntKind.wrap Go.IntKind.i64 ((Go.IntKind.wrap Go.IntKind.i64 ((Go.IntKind.wrap Go.IntKind.i64 (n1 + (1 : Int))) + (1 : Int))) + (1 : Int))) + (1 : Int))) (Go.IntKind.wrap Go.IntKind.i64 (n2 + (1 : Int))))))
                none)))
            none)))
        none)))
    none)
  (kN n1))
def l_laws_heldEventS_w_0 (N : Nat) {R : Type} (b1 : Bool) (l1 : List Go.Sa.Event) (kR : Int → Option R) (kN : Int → Option R) : Nat → Int → Int → Option R
  | 0, _, _ => none
  | f + 1, n1, n2 => s_laws_heldEventS_w_0 N b1 l1 n1 n2 (fun n1 n2 => l_laws_heldEventS_w_0 N b1 l1 kR kN f n1 n2)  kR kN
def c_laws_heldEventS_w_0 (N : Nat) {R : Type} (b1 : Bool) (l1 : List Go.Sa.Event) (n1 : Int) (n2 : Int) (kR : Int → Option R) (kN : Int → Option R) : Option R := l_laws_heldEventS_w_0 N b1 l1 kR kN N n1 n2
theorem se_laws_heldEventS_w_0 (N : Nat) {R : Type} (b1 : Bool) (l1 : List Go.Sa.Event) (n1 : Int) (n2 : Int) (AG : List (Option AV) → Hp E → Option R) (KL : Ex → List (Option AV) → Hp E → Option R) :
    iterStep (E := E) (O_laws_heldEventS_w N) (fun {R} => LI (noIt) 1 49 sl_laws_heldEventS_w (R := R)) J_laws_heldEventS_w 1 49 0 [0, 1, 5] [1, 4] (body Go.Proofs.Try.f53 0) AG KL [(Option.some (Go.Eng.AV.sc (Go.Eng.SV.slc 0 Option.none b1))), (Option.some (Go.Eng.AV.sc (Go.Eng.SV.int Go.IntKind.i64 n1))), (Option.some (Go.Eng.AV.sc (Go.Eng.SV.int Go.IntKind.i64 n2)))] [(Option.some (Go.Eng.HE.mk Bool.false (Go.Eng.HB.rows (Go.Sa.B.iEvent l1))))] =
      s_laws_heldEventS_w_0 N b1 l1 n1 n2 (fun n1 n2 => AG [(Option.some (Go.Eng.AV.sc (Go.Eng.SV.slc 0 Option.none b1))), (Option.some (Go.Eng.AV.sc (Go.Eng.SV.int Go.IntKind.i64 n1))), (Option.some (Go.Eng.AV.sc (Go.Eng.SV.int Go.IntKind.i64 n2)))] [(Option.some (Go.Eng.HE.mk Bool.false (Go.Eng.HB.rows (Go.Sa.B.iEvent l1))))])  (fun n6 => KL Go.Eng.Ex.ret [(Option.some (Go.Eng.AV.sc (Go.Eng.SV.int Go.IntKind.i64 n6))), (Option.some (Go.Eng.AV.sc (Go.Eng.SV.int Go.IntKind.i64 (-(1 : Int)))))] [(Option.some (Go.Eng.HE.mk Bool.false (Go.Eng.HB.rows (Go.Sa.B.iEvent l1))))]) (fun n7 => KL Go.Eng.Ex.normal [(Option.some (Go.Eng.AV.sc (Go.Eng.SV.int Go.IntKind.i64 n7))), Option.none] [(Option.some (Go.Eng.HE.mk Bool.false (Go.Eng.HB.rows (Go.Sa.B.iEvent l1))))]) := by kernel_rfl
theorem le_laws_heldEventS_w_0 (N : Nat) {R : Type} (b1 : Bool) (l1 : List Go.Sa.Event) (KL : Ex → List (Option AV) → Hp E → Option R) : ∀ (f : Nat), ∀ (n1 : Int) (n2 : Int), iterK (E := E) (O_laws_heldEventS_w N) (fun {R} => LI (noIt) 1 49 sl_laws_heldEventS_w (R := R)) J_laws_heldEventS_w 1 49 0 [0, 1, 5] [1, 4] (body Go.Proofs.Try.f53 0) f [(Option.some (Go.Eng.AV.sc (Go.Eng.SV.slc 0 Option.none b1))), (Option.some (Go.Eng.AV.sc (Go.Eng.SV.int Go.IntKind.i64 n1))), (Option.some (Go.Eng.AV.sc (Go.Eng.SV.int Go.IntKind.i64 n2)))] [(Option.some (Go.Eng.HE.mk Bool.false (Go.Eng.HB.rows (Go.Sa.B.iEvent l1))))] KL = l_laws_heldEventS_w_0 N b1 l1 (fun n6 => KL Go.Eng.Ex.ret [(Option.some (Go.Eng.AV.sc (Go.Eng.SV.int Go.IntKind.i64 n6))), (Option.some (Go.Eng.AV.sc (Go.Eng.SV.int Go.IntKind.i64 (-(1 : Int)))))] [(Option.some (Go.Eng.HE.mk Bool.false (Go.Eng.HB.rows (Go.Sa.B.iEvent l1))))]) (fun n7 => KL Go.Eng.Ex.normal [(Option.some (Go.Eng.AV.sc (Go.Eng.SV.int Go.IntKind.i64 n7))), Option.none] [(Option.some (Go.Eng.HE.mk Bool.false (Go.Eng.HB.rows (Go.Sa.B.iEvent l1))))]) f n1 n2 := by
  intro f
  induction f with
  | zero => intros; rfl
  | succ f ih =>
    intro n1 n2
    rw [iterK_succ, se_laws_heldEventS_w_0]
    exact (congrArg (fun z0 => s_laws_heldEventS_w_0 N b1 l1 n1 n2 z0 (fun n6 => KL Go.Eng.Ex.ret [(Option.some (Go.Eng.AV.sc (Go.Eng.SV.int Go.IntKind.i64 n6))), (Option.some (Go.Eng.AV.sc (Go.Eng.SV.int Go.IntKind.i64 (-(1 : Int)))))] [(Option.some (Go.Eng.HE.mk Bool.false (Go.Eng.HB.rows (Go.Sa.B.iEvent l1))))]) (fun n7 => KL Go.Eng.Ex.normal [(Option.some (Go.Eng.AV.sc (Go.Eng.SV.int Go.IntKind.i64 n7))), Option.none] [(Option.some (Go.Eng.HE.mk Bool.false (Go.Eng.HB.rows (Go.Sa.B.iEvent l1))))])) (funext fun n1 => funext fun n2 => ih n1 n2))
def i_laws_heldEventS_w_0 (N : Nat) {R : Type} (vs : List (Option AV)) (H : Hp E) (KL : Ex → List (Option AV) → Hp E → Option R) : Option R :=
  match vs, H with
  | [(Option.some (Go.Eng.AV.sc (Go.Eng.SV.slc 0 Option.none b1))), (Option.some (Go.Eng.AV.sc (Go.Eng.SV.int Go.IntKind.i64 n1))), (Option.some (Go.Eng.AV.sc (Go.Eng.SV.int Go.IntKind.i64 n2)))], [(Option.some (Go.Eng.HE.mk Bool.false (Go.Eng.HB.rows (Go.Sa.B.iEvent l1))))] => c_laws_heldEventS_w_0 N b1 l1 n1 n2 (fun n8 => KL Go.Eng.Ex.ret [(Option.some (Go.Eng.AV.sc (Go.Eng.SV.int Go.IntKind.i64 n8))), (Option.some (Go.Eng.AV.sc (Go.Eng.SV.int Go.IntKind.i64 (-(1 : Int)))))] [(Option.some (Go.Eng.HE.mk Bool.false (Go.Eng.HB.rows (Go.Sa.B.iEvent l1))))]) (fun n9 => KL Go.Eng.Ex.normal [(Option.some (Go.Eng.AV.sc (Go.Eng.SV.int Go.IntKind.i64 n9))), Option.none] [(Option.some (Go.Eng.HE.mk Bool.false (Go.Eng.HB.rows (Go.Sa.B.iEvent l1))))])
  | _, _ => none
noncomputable def IT_laws_heldEventS_w_0 (N : Nat) : Its E := addIt 0 (i_laws_heldEventS_w_0 N) (noIt)
theorem IT_laws_heldEventS_w_0_ok (N : Nat) : ItOk (IT_laws_heldEventS_w_0 N) 1 49 sl_laws_heldEventS_w (lsB Go.Proofs.Try.f53 [0]) :=
  addItB_ok (inner := []) ok (O_laws_heldEventS_w_ok N) (jn_ok _ _ _) (noIt_ok) rfl (by kernel_rfl) rfl fun vs H KL r h => by
    unfold i_laws_heldEventS_w_0 at h
    split at h
    · exact ⟨_, (le_laws_heldEventS_w_0 N _ _ KL N _ _).trans h⟩
    · cases h
def g_laws_heldEventS_w (N : Nat) {R : Type} (b : Bool) (n : Int) (l : List Go.Sa.Event) (k : Int → Option R) : Option R :=
  (c_laws_heldEventS_w_0 N b l n (0 : Int) (fun n3 =>
  (k (-(1 : Int)))) (fun n4 =>
  (k n4)))
theorem e_laws_heldEventS_w (N : Nat) {R : Type} (b : Bool) (n : Int) (l : List Go.Sa.Event) (K : AV → Hp E → Option R) :
    runFnI (E := E) (O_laws_heldEventS_w N) (IT_laws_heldEventS_w_0 N) sl_laws_heldEventS_w J_laws_heldEventS_w Go.Proofs.Try.f53 [(Go.Eng.AV.sc (Go.Eng.SV.slc 0 Option.none b)), (Go.Eng.AV.sc (Go.Eng.SV.int Go.IntKind.i64 n))] [(Option.some (Go.Eng.HE.mk Bool.false (Go.Eng.HB.rows (Go.Sa.B.iEvent l))))] K =
      g_laws_heldEventS_w N b n l (fun n5 => K (Go.Eng.AV.sc (Go.Eng.SV.int Go.IntKind.i64 n5)) [(Option.some (Go.Eng.HE.mk Bool.false (Go.Eng.HB.rows (Go.Sa.B.iEvent l))))]) := by kernel_rfl
def o_laws_heldEventS_w (N : Nat) {R : Type} (args : List AV) (H : Hp E) (K : AV → Hp E → Option R) : Option R :=
  match args, H with
  | [(Go.Eng.AV.sc (Go.Eng.SV.slc 0 Option.none b)), (Go.Eng.AV.sc (Go.Eng.SV.int Go.IntKind.i64 n))], [(Option.some (Go.Eng.HE.mk Bool.false (Go.Eng.HB.rows (Go.Sa.B.iEvent l))))] => g_laws_heldEventS_w N b n l (fun n5 => K (Go.Eng.AV.sc (Go.Eng.SV.int Go.IntKind.i64 n5)) [(Option.some (Go.Eng.HE.mk Bool.false (Go.Eng.HB.rows (Go.Sa.B.iEvent l))))])
  | _, _ => none
theorem o_laws_heldEventS_w_ok (N : Nat) : FnOk E 53 (o_laws_heldEventS_w N) := by
  intro R args H K r h
  unfold o_laws_heldEventS_w at h
  dsimp only at h
  split at h
  · exact fnB_ok (ids := [0]) (top := [0]) ok (O_laws_heldEventS_w_ok N) (jn_ok _ _ _) Go.Proofs.Try.func53 (by kernel_rfl) (IT := IT_laws_heldEventS_w_0 N) (sl := sl_laws_heldEventS_w) (J := J_laws_heldEventS_w) (K := K) (H := [(Option.some (Go.Eng.HE.mk Bool.false (Go.Eng.HB.rows (Go.Sa.B.iEvent _))))]) (IT_laws_heldEventS_w_0_ok N) (by kernel_rfl) rfl ((e_laws_heldEventS_w N _ _ _ K).trans h)
  · cases h
/-! ### loop.example/g00038/laws.FnExactUnpackEvents -/
abbrev sl_laws_FnExactUnpackEvents : SlotT := []
abbrev J_laws_FnExactUnpackEvents : JT := jn [] [] []
noncomputable def O_laws_FnExactUnpackEvents (N : Nat) : Orc E := addFn 53 (o_laws_heldEventS_w N) (addFn 52 (o_laws_markEventS_w N) (addFn 51 (o_laws_eqEventS_ww N) (addFn 50 (o_impl_UnpackEvents N) (addFn 49 (o_spec_UnpackEvents N) (noFn)))))
theorem O_laws_FnExactUnpackEvents_ok (N : Nat) : OrcOk (O_laws_FnExactUnpackEvents N) := addFn_ok (o_laws_heldEventS_w_ok N) (addFn_ok (o_laws_markEventS_w_ok N) (addFn_ok (o_laws_eqEventS_ww_ok N) (addFn_ok (o_impl_UnpackEvents_ok N) (addFn_ok (o_spec_UnpackEvents_ok N) (noFn_ok)))))
def g_laws_FnExactUnpackEvents (N : Nat) {R : Type} (s : ByteArray) (k : Bool → Option R) : Option R :=
  (cond (decide (((((ByteArray.size s) : Nat) : Int) > (1048576 : Int))))
  (k Bool.true)
  (g_spec_UnpackEvents N s fun b l =>
    (g_impl_UnpackEvents N s fun b1 l1 =>
    (g_laws_eqEventS_ww N b1 b l1 l fun b2 =>
    (cond (!b2)
    (k Bool.false)
    (g_laws_markEventS_w N b1 (1 : Int) l1 fun n l2 =>
      (g_laws_heldEventS_w N b1 (1 : Int) l2 fun n1 =>
      (cond (decide ((n1 < (0 : Int))))
      (k Bool.false)
      (cond (n1 != n)
        (k Bool.false)
        (g_impl_UnpackEvents N s fun b3 l3 =>
          (g_laws_eqEventS_ww N b3 b l3 l fun b4 =>
          (cond (!b4)
          (k Bool.false)
          (g_laws_heldEventS_w N b1 (1 : Int) l2 fun n2 =>
            (cond (decide ((n2 < (0 : Int))))
            (k Bool.false)
            (cond (n2 != n)
              (k Bool.false)
              (k Bool.true))))))))))))))))
theorem e_laws_FnExactUnpackEvents (N : Nat) {R : Type} (s : ByteArray) (K : AV → Hp E → Option R) :
    runFnI (E := E) (O_laws_FnExactUnpackEvents N) (noIt) sl_laws_FnExactUnpackEvents J_laws_FnExactUnpackEvents Go.Proofs.Try.f10 [(Go.Eng.AV.sc (Go.Eng.SV.str s))] [] K =
      g_laws_FnExactUnpackEvents N s (fun b5 => K (Go.Eng.AV.sc (Go.Eng.SV.bool b5)) []) := by kernel_rfl
def o_laws_FnExactUnpackEvents (N : Nat) {R : Type} (args : List AV) (H : Hp E) (K : AV → Hp E → Option R) : Option R :=
  match args, H with
  | [(Go.Eng.AV.sc (Go.Eng.SV.str s))], [] => g_laws_FnExactUnpackEvents N s (fun b5 => K (Go.Eng.AV.sc (Go.Eng.SV.bool b5)) [])
  | _, _ => none
theorem o_laws_FnExactUnpackEvents_ok (N : Nat) : FnOk E 10 (o_laws_FnExactUnpackEvents N) := by
  intro R args H K r h
  unfold o_laws_FnExactUnpackEvents at h
  dsimp only at h
  split at h
  · exact fnB_ok (ids := []) (top := []) ok (O_laws_FnExactUnpackEvents_ok N) (jn_ok _ _ _) Go.Proofs.Try.func10 (by kernel_rfl) (IT := noIt) (sl := sl_laws_FnExactUnpackEvents) (J := J_laws_FnExactUnpackEvents) (K := K) (H := []) (noIt_ok) (by kernel_rfl) rfl ((e_laws_FnExactUnpackEvents N _ K).trans h)
  · cases h
end Go.Sa
