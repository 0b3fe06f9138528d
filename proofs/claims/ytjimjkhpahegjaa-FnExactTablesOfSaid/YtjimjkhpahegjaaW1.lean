import Derived.Test.YtjimjkhpahegjaaEnv
import Derived.Test.YtjimjkhpahegjaaPL
import Derived.Test.YtjimjkhpahegjaaW0
set_option linter.all false
namespace Go.Sa
open Go Go.Eng Go.Proofs
set_option maxRecDepth 100000
/-! ### loop.example/g00038/laws.markFirmTableS -/
abbrev sl_laws_markFirmTableS_w : SlotT := [(0, ([0, 1, 5], [1]))]
abbrev J_laws_markFirmTableS_w : JT := jn [] []
noncomputable def O_laws_markFirmTableS_w (N : Nat) : Orc E := addFn 100 (o_laws_markText N) (noFn)
theorem O_laws_markFirmTableS_w_ok (N : Nat) : OrcOk (O_laws_markFirmTableS_w N) := addFn_ok (o_laws_markText_ok N) (noFn_ok)
def s_laws_markFirmTableS_w_0 (N : Nat) {R : Type} (b1 : Bool) (n1 : Int) (n2 : Int) (l1 : List Go.Sa.FirmTable) (ag : Int → Int → (List Go.Sa.FirmTable) → Option R)  (kN : Int → (List Go.Sa.FirmTable) → Option R) : Option R :=
  (cond (decide ((n2 < (((List.length l1) : Nat) : Int))))
  (g_laws_markText N n1 fun s =>
    (cond ((decide (((0 : Int) ≤ n2))) && (decide ((n2 < (((List.length l1) : Nat) : Int)))))
    (elemK l1 (Int.toNat n2) fun x =>
      (cond (Nat.blt (Int.toNat n2) (List.length l1))
      (cond ((decide (((0 : Int) ≤ n2))) && (decide ((n2 < (((List.length (Go.Eng.nset l1 (Int.toNat n2) (Go.Sa.FirmTable.mk s (Go.Sa.FirmTable.fRev x) (Go.Sa.FirmTable.fBody x)))) : Nat) : Int)))))
        (elemK (Go.Eng.nset l1 (Int.toNat n2) (Go.Sa.FirmTable.mk s (Go.Sa.FirmTable.fRev x) (Go.Sa.FirmTable.fBody x))) (Int.toNat n2) fun x1 =>
          (cond (Nat.blt (Int.toNat n2) (List.length (Go.Eng.nset l1 (Int.toNat n2) (Go.Sa.FirmTable.mk s (Go.Sa.FirmTable.fRev x) (Go.Sa.FirmTable.fBody x)))))
          (g_laws_markText N (Go.IntKind.wrap Go.IntKind.i64 ((Go.IntKind.wrap Go.IntKind.i64 (n1 + (1 : Int))) + (1 : Int))) fun s1 =>
            (cond ((decide (((0 : Int) ≤ n2))) && (decide ((n2 < (((List.length (Go.Eng.nset (Go.Eng.nset l1 (Int.toNat n2) (Go.Sa.FirmTable.mk s (Go.Sa.FirmTable.fRev x) (Go.Sa.FirmTable.fBody x))) (Int.toNat n2) (Go.Sa.FirmTable.mk (Go.Sa.FirmTable.fName x1) (Go.IntKind.wrap Go.IntKind.i64 (n1 + (1 : Int))) (Go.Sa.FirmTable.fBody x1)))) : Nat) : Int)))))
            (elemK (Go.Eng.nset (Go.Eng.nset l1 (Int.toNat n2) (Go.Sa.FirmTable.mk s (Go.Sa.FirmTable.fRev x) (Go.Sa.FirmTable.fBody x))) (Int.toNat n2) (Go.Sa.FirmTable.mk (Go.Sa.FirmTable.fName x1) (Go.IntKind.wrap Go.IntKind.i64 (n1 + (1 : Int))) (Go.Sa.FirmTable.fBody x1))) (Int.toNat n2) fun x2 =>
              (cond (Nat.blt (Int.toNat n2) (List.length (Go.Eng.nset (Go.Eng.nset l1 (Int.toNat n2) (Go.Sa.FirmTable.mk s (Go.Sa.FirmTable.fRev x) (Go.Sa.FirmTable.fBody x))) (Int.toNat n2) (Go.Sa.FirmTable.mk (Go.Sa.FirmTable.fName x1) (Go.IntKind.wrap Go.IntKind.i64 (n1 + (1 : Int))) (Go.Sa.FirmTable.fBody x1)))))
              (ag (Go.IntKind.wrap Go.IntKind.i64 ((Go.IntKind.wrap Go.IntKind.i64 ((Go.IntKind.wrap Go.IntKind.i64 (n1 + (1 : Int))) + (1 : Int))) + (1 : Int))) (Go.IntKind.wrap Go.IntKind.i64 (n2 + (1 : Int))) (Go.Eng.nset (Go.Eng.nset (Go.Eng.nset l1 (Int.toNat n2) (Go.Sa.FirmTable.mk s (Go.Sa.FirmTable.fRev x) (Go.Sa.FirmTable.fBody x))) (Int.toNat n2) (Go.Sa.FirmTable.mk (Go.Sa.FirmTable.fName x1) (Go.IntKind.wrap Go.IntKind.i64 (n1 + (1 : Int))) (Go.Sa.FirmTable.fBody x1))) (Int.toNat n2) (Go.Sa.FirmTable.mk (Go.Sa.FirmTable.fName x2) (Go.Sa.FirmTable.fRev x2) s1)))
              none))
            none))
          none))
        none)
      none))
    none))
  (kN n1 l1))
def l_laws_markFirmTableS_w_0 (N : Nat) {R : Type} (b1 : Bool) (kN : Int → (List Go.Sa.FirmTable) → Option R) : Nat → Int → Int → (List Go.Sa.FirmTable) → Option R
  | 0, _, _, _ => none
  | f + 1, n1, n2, l1 => s_laws_markFirmTableS_w_0 N b1 n1 n2 l1 (fun n1 n2 l1 => l_laws_markFirmTableS_w_0 N b1 kN f n1 n2 l1)  kN
def c_laws_markFirmTableS_w_0 (N : Nat) {R : Type} (b1 : Bool) (n1 : Int) (n2 : Int) (l1 : List Go.Sa.FirmTable) (kN : Int → (List Go.Sa.FirmTable) → Option R) : Option R := l_laws_markFirmTableS_w_0 N b1 kN N n1 n2 l1
theorem se_laws_markFirmTableS_w_0 (N : Nat) {R : Type} (b1 : Bool) (n1 : Int) (n2 : Int) (l1 : List Go.Sa.FirmTable) (AG : List (Option AV) → Hp E → Option R) (KL : Ex → List (Option AV) → Hp E → Option R) :
    iterStep (E := E) (O_laws_markFirmTableS_w N) (fun {R} => LI (noIt) 1 36 sl_laws_markFirmTableS_w (R := R)) J_laws_markFirmTableS_w 1 36 0 [0, 1, 5] [1] (body Go.Proofs.Try.f51 0) AG KL [(Option.some (Go.Eng.AV.sc (Go.Eng.SV.slc 0 Option.none b1))), (Option.some (Go.Eng.AV.sc (Go.Eng.SV.int Go.IntKind.i64 n1))), (Option.some (Go.Eng.AV.sc (Go.Eng.SV.int Go.IntKind.i64 n2)))] [(Option.some (Go.Eng.HE.mk Bool.false (Go.Eng.HB.rows (Go.Sa.B.iFirmTable l1))))] =
      s_laws_markFirmTableS_w_0 N b1 n1 n2 l1 (fun n1 n2 l1 => AG [(Option.some (Go.Eng.AV.sc (Go.Eng.SV.slc 0 Option.none b1))), (Option.some (Go.Eng.AV.sc (Go.Eng.SV.int Go.IntKind.i64 n1))), (Option.some (Go.Eng.AV.sc (Go.Eng.SV.int Go.IntKind.i64 n2)))] [(Option.some (Go.Eng.HE.mk Bool.false (Go.Eng.HB.rows (Go.Sa.B.iFirmTable l1))))])  (fun n5 l4 => KL Go.Eng.Ex.normal [(Option.some (Go.Eng.AV.sc (Go.Eng.SV.int Go.IntKind.i64 n5)))] [(Option.some (Go.Eng.HE.mk Bool.false (Go.Eng.HB.rows (Go.Sa.B.iFirmTable l4))))]) := by kernel_rfl
theorem le_laws_markFirmTableS_w_0 (N : Nat) {R : Type} (b1 : Bool) (KL : Ex → List (Option AV) → Hp E → Option R) : ∀ (f : Nat), ∀ (n1 : Int) (n2 : Int) (l1 : List Go.Sa.FirmTable), iterK (E := E) (O_laws_markFirmTableS_w N) (fun {R} => LI (noIt) 1 36 sl_laws_markFirmTableS_w (R := R)) J_laws_markFirmTableS_w 1 36 0 [0, 1, 5] [1] (body Go.Proofs.Try.f51 0) f [(Option.some (Go.Eng.AV.sc (Go.Eng.SV.slc 0 Option.none b1))), (Option.some (Go.Eng.AV.sc (Go.Eng.SV.int Go.IntKind.i64 n1))), (Option.some (Go.Eng.AV.sc (Go.Eng.SV.int Go.IntKind.i64 n2)))] [(Option.some (Go.Eng.HE.mk Bool.false (Go.Eng.HB.rows (Go.Sa.B.iFirmTable l1))))] KL = l_laws_markFirmTableS_w_0 N b1 (fun n5 l4 => KL Go.Eng.Ex.normal [(Option.some (Go.Eng.AV.sc (Go.Eng.SV.int Go.IntKind.i64 n5)))] [(Option.some (Go.Eng.HE.mk Bool.false (Go.Eng.HB.rows (Go.Sa.B.iFirmTable l4))))]) f n1 n2 l1 := by
  intro f
  induction f with
  | zero => intros; rfl
  | succ f ih =>
    intro n1 n2 l1
    rw [iterK_succ, se_laws_markFirmTableS_w_0]
    exact (congrArg (fun z0 => s_laws_markFirmTableS_w_0 N b1 n1 n2 l1 z0 (fun n5 l4 => KL Go.Eng.Ex.normal [(Option.some (Go.Eng.AV.sc (Go.Eng.SV.int Go.IntKind.i64 n5)))] [(Option.some (Go.Eng.HE.mk Bool.false (Go.Eng.HB.rows (Go.Sa.B.iFirmTable l4))))])) (funext fun n1 => funext fun n2 => funext fun l1 => ih n1 n2 l1))
def i_laws_markFirmTableS_w_0 (N : Nat) {R : Type} (vs : List (Option AV)) (H : Hp E) (KL : Ex → List (Option AV) → Hp E → Option R) : Option R :=
  match vs, H with
  | [(Option.some (Go.Eng.AV.sc (Go.Eng.SV.slc 0 Option.none b1))), (Option.some (Go.Eng.AV.sc (Go.Eng.SV.int Go.IntKind.i64 n1))), (Option.some (Go.Eng.AV.sc (Go.Eng.SV.int Go.IntKind.i64 n2)))], [(Option.some (Go.Eng.HE.mk Bool.false (Go.Eng.HB.rows (Go.Sa.B.iFirmTable l1))))] => c_laws_markFirmTableS_w_0 N b1 n1 n2 l1 (fun n6 l5 => KL Go.Eng.Ex.normal [(Option.some (Go.Eng.AV.sc (Go.Eng.SV.int Go.IntKind.i64 n6)))] [(Option.some (Go.Eng.HE.mk Bool.false (Go.Eng.HB.rows (Go.Sa.B.iFirmTable l5))))])
  | _, _ => none
noncomputable def IT_laws_markFirmTableS_w_0 (N : Nat) : Its E := addIt 0 (i_laws_markFirmTableS_w_0 N) (noIt)
theorem IT_laws_markFirmTableS_w_0_ok (N : Nat) : ItOk (IT_laws_markFirmTableS_w_0 N) 1 36 sl_laws_markFirmTableS_w (lsB Go.Proofs.Try.f51 [0]) :=
  addItB_ok (inner := []) ok (O_laws_markFirmTableS_w_ok N) (jn_ok _ _) (noIt_ok) rfl (by kernel_rfl) rfl fun vs H KL r h => by
    unfold i_laws_markFirmTableS_w_0 at h
    split at h
    · exact ⟨_, (le_laws_markFirmTableS_w_0 N _ KL N _ _ _).trans h⟩
    · cases h
def g_laws_markFirmTableS_w (N : Nat) {R : Type} (b : Bool) (n : Int) (l : List Go.Sa.FirmTable) (k : Int → (List Go.Sa.FirmTable) → Option R) : Option R :=
  (c_laws_markFirmTableS_w_0 N b n (0 : Int) l fun n3 l2 =>
  (k n3 l2))
theorem e_laws_markFirmTableS_w (N : Nat) {R : Type} (b : Bool) (n : Int) (l : List Go.Sa.FirmTable) (K : AV → Hp E → Option R) :
    runFnI (E := E) (O_laws_markFirmTableS_w N) (IT_laws_markFirmTableS_w_0 N) sl_laws_markFirmTableS_w J_laws_markFirmTableS_w Go.Proofs.Try.f51 [(Go.Eng.AV.sc (Go.Eng.SV.slc 0 Option.none b)), (Go.Eng.AV.sc (Go.Eng.SV.int Go.IntKind.i64 n))] [(Option.some (Go.Eng.HE.mk Bool.false (Go.Eng.HB.rows (Go.Sa.B.iFirmTable l))))] K =
      g_laws_markFirmTableS_w N b n l (fun n4 l3 => K (Go.Eng.AV.sc (Go.Eng.SV.int Go.IntKind.i64 n4)) [(Option.some (Go.Eng.HE.mk Bool.false (Go.Eng.HB.rows (Go.Sa.B.iFirmTable l3))))]) := by kernel_rfl
def o_laws_markFirmTableS_w (N : Nat) {R : Type} (args : List AV) (H : Hp E) (K : AV → Hp E → Option R) : Option R :=
  match args, H with
  | [(Go.Eng.AV.sc (Go.Eng.SV.slc 0 Option.none b)), (Go.Eng.AV.sc (Go.Eng.SV.int Go.IntKind.i64 n))], [(Option.some (Go.Eng.HE.mk Bool.false (Go.Eng.HB.rows (Go.Sa.B.iFirmTable l))))] => g_laws_markFirmTableS_w N b n l (fun n4 l3 => K (Go.Eng.AV.sc (Go.Eng.SV.int Go.IntKind.i64 n4)) [(Option.some (Go.Eng.HE.mk Bool.false (Go.Eng.HB.rows (Go.Sa.B.iFirmTable l3))))])
  | _, _ => none
theorem o_laws_markFirmTableS_w_ok (N : Nat) : FnOk E 51 (o_laws_markFirmTableS_w N) := by
  intro R args H K r h
  unfold o_laws_markFirmTableS_w at h
  dsimp only at h
  split at h
  · exact fnB_ok (ids := [0]) (top := [0]) ok (O_laws_markFirmTableS_w_ok N) (jn_ok _ _) Go.Proofs.Try.func51 (by kernel_rfl) (IT := IT_laws_markFirmTableS_w_0 N) (sl := sl_laws_markFirmTableS_w) (J := J_laws_markFirmTableS_w) (K := K) (H := [(Option.some (Go.Eng.HE.mk Bool.false (Go.Eng.HB.rows (Go.Sa.B.iFirmTable _))))]) (IT_laws_markFirmTableS_w_0_ok N) (by kernel_rfl) rfl ((e_laws_markFirmTableS_w N _ _ _ K).trans h)
  · cases h
/-! ### loop.example/g00038/laws.heldFirmTableS -/
abbrev sl_laws_heldFirmTableS_w : SlotT := [(0, ([0, 1, 5], [1, 4]))]
abbrev J_laws_heldFirmTableS_w : JT := jn [] []
noncomputable def O_laws_heldFirmTableS_w (N : Nat) : Orc E := addFn 100 (o_laws_markText N) (noFn)
theorem O_laws_heldFirmTableS_w_ok (N : Nat) : OrcOk (O_laws_heldFirmTableS_w N) := addFn_ok (o_laws_markText_ok N) (noFn_ok)
def s_laws_heldFirmTableS_w_0 (N : Nat) {R : Type} (b1 : Bool) (l1 : List Go.Sa.FirmTable) (n1 : Int) (n2 : Int) (ag : Int → Int → Option R)  (kR : Int → Option R) (kN : Int → Option R) : Option R :=
  (cond (decide ((n2 < (((List.length l1) : Nat) : Int))))
  (cond ((decide (((0 : Int) ≤ n2))) && (decide ((n2 < (((List.length l1) : Nat) : Int)))))
    (elemK l1 (Int.toNat n2) fun x =>
      (g_laws_markText N n1 fun s =>
      (cond (!(decide (((Go.Sa.FirmTable.fName x) = s))))
      (kR n1)
      (cond ((decide (((0 : Int) ≤ n2))) && (decide ((n2 < (((List.length l1) : Nat) : Int)))))
        (elemK l1 (Int.toNat n2) fun x1 =>
          (cond ((Go.Sa.FirmTable.fRev x1) != (Go.IntKind.wrap Go.IntKind.i64 (n1 + (1 : Int))))
          (kR (Go.IntKind.wrap Go.IntKind.i64 (n1 + (1 : Int))))
          (cond ((decide (((0 : Int) ≤ n2))) && (decide ((n2 < (((List.length l1) : Nat) : Int)))))
            (elemK l1 (Int.toNat n2) fun x2 =>
              (g_laws_markText N (Go.IntKind.wrap Go.IntKind.i64 ((Go.IntKind.wrap Go.IntKind.i64 (n1 + (1 : Int))) + (1 : Int))) fun s1 =>
              (cond (!(decide (((Go.Sa.FirmTable.fBody x2) = s1))))
              (kR (Go.IntKind.wrap Go.IntKind.i64 ((Go.IntKind.wrap Go.IntKind.i64 (n1 + (1 : Int))) + (1 : Int))))
              (ag (Go.IntKind.wrap Go.IntKind.i64 ((Go.IntKind.wrap Go.IntKind.i64 ((Go.IntKind.wrap Go.IntKind.i64 (n1 + (1 : Int))) + (1 : Int))) + (1 : Int))) (Go.IntKind.wrap Go.IntKind.i64 (n2 + (1 : Int)))))))
            none)))
        none))))
    none)
  (kN n1))
def l_laws_heldFirmTableS_w_0 (N : Nat) {R : Type} (b1 : Bool) (l1 : List Go.Sa.FirmTable) (kR : Int → Option R) (kN : Int → Option R) : Nat → Int → Int → Option R
  | 0, _, _ => none
  | f + 1, n1, n2 => s_laws_heldFirmTableS_w_0 N b1 l1 n1 n2 (fun n1 n2 => l_laws_heldFirmTableS_w_0 N b1 l1 kR kN f n1 n2)  kR kN
def c_laws_heldFirmTableS_w_0 (N : Nat) {R : Type} (b1 : Bool) (l1 : List Go.Sa.FirmTable) (n1 : Int) (n2 : Int) (kR : Int → Option R) (kN : Int → Option R) : Option R := l_laws_heldFirmTableS_w_0 N b1 l1 kR kN N n1 n2
theorem se_laws_heldFirmTableS_w_0 (N : Nat) {R : Type} (b1 : Bool) (l1 : List Go.Sa.FirmTable) (n1 : Int) (n2 : Int) (AG : List (Option AV) → Hp E → Option R) (KL : Ex → List (Option AV) → Hp E → Option R) :
    iterStep (E := E) (O_laws_heldFirmTableS_w N) (fun {R} => LI (noIt) 1 42 sl_laws_heldFirmTableS_w (R := R)) J_laws_heldFirmTableS_w 1 42 0 [0, 1, 5] [1, 4] (body Go.Proofs.Try.f52 0) AG KL [(Option.some (Go.Eng.AV.sc (Go.Eng.SV.slc 0 Option.none b1))), (Option.some (Go.Eng.AV.sc (Go.Eng.SV.int Go.IntKind.i64 n1))), (Option.some (Go.Eng.AV.sc (Go.Eng.SV.int Go.IntKind.i64 n2)))] [(Option.some (Go.Eng.HE.mk Bool.false (Go.Eng.HB.rows (Go.Sa.B.iFirmTable l1))))] =
      s_laws_heldFirmTableS_w_0 N b1 l1 n1 n2 (fun n1 n2 => AG [(Option.some (Go.Eng.AV.sc (Go.Eng.SV.slc 0 Option.none b1))), (Option.some (Go.Eng.AV.sc (Go.Eng.SV.int Go.IntKind.i64 n1))), (Option.some (Go.Eng.AV.sc (Go.Eng.SV.int Go.IntKind.i64 n2)))] [(Option.some (Go.Eng.HE.mk Bool.false (Go.Eng.HB.rows (Go.Sa.B.iFirmTable l1))))])  (fun n6 => KL Go.Eng.Ex.ret [(Option.some (Go.Eng.AV.sc (Go.Eng.SV.int Go.IntKind.i64 n6))), (Option.some (Go.Eng.AV.sc (Go.Eng.SV.int Go.IntKind.i64 (-(1 : Int)))))] [(Option.some (Go.Eng.HE.mk Bool.false (Go.Eng.HB.rows (Go.Sa.B.iFirmTable l1))))]) (fun n7 => KL Go.Eng.Ex.normal [(Option.some (Go.Eng.AV.sc (Go.Eng.SV.int Go.IntKind.i64 n7))), Option.none] [(Option.some (Go.Eng.HE.mk Bool.false (Go.Eng.HB.rows (Go.Sa.B.iFirmTable l1))))]) := by kernel_rfl
theorem le_laws_heldFirmTableS_w_0 (N : Nat) {R : Type} (b1 : Bool) (l1 : List Go.Sa.FirmTable) (KL : Ex → List (Option AV) → Hp E → Option R) : ∀ (f : Nat), ∀ (n1 : Int) (n2 : Int), iterK (E := E) (O_laws_heldFirmTableS_w N) (fun {R} => LI (noIt) 1 42 sl_laws_heldFirmTableS_w (R := R)) J_laws_heldFirmTableS_w 1 42 0 [0, 1, 5] [1, 4] (body Go.Proofs.Try.f52 0) f [(Option.some (Go.Eng.AV.sc (Go.Eng.SV.slc 0 Option.none b1))), (Option.some (Go.Eng.AV.sc (Go.Eng.SV.int Go.IntKind.i64 n1))), (Option.some (Go.Eng.AV.sc (Go.Eng.SV.int Go.IntKind.i64 n2)))] [(Option.some (Go.Eng.HE.mk Bool.false (Go.Eng.HB.rows (Go.Sa.B.iFirmTable l1))))] KL = l_laws_heldFirmTableS_w_0 N b1 l1 (fun n6 => KL Go.Eng.Ex.ret [(Option.some (Go.Eng.AV.sc (Go.Eng.SV.int Go.IntKind.i64 n6))), (Option.some (Go.Eng.AV.sc (Go.Eng.SV.int Go.IntKind.i64 (-(1 : Int)))))] [(Option.some (Go.Eng.HE.mk Bool.false (Go.Eng.HB.rows (Go.Sa.B.iFirmTable l1))))]) (fun n7 => KL Go.Eng.Ex.normal [(Option.some (Go.Eng.AV.sc (Go.Eng.SV.int Go.IntKind.i64 n7))), Option.none] [(Option.some (Go.Eng.HE.mk Bool.false (Go.Eng.HB.rows (Go.Sa.B.iFirmTable l1))))]) f n1 n2 := by
  intro f
  induction f with
  | zero => intros; rfl
  | succ f ih =>
    intro n1 n2
    rw [iterK_succ, se_laws_heldFirmTableS_w_0]
    exact (congrArg (fun z0 => s_laws_heldFirmTableS_w_0 N b1 l1 n1 n2 z0 (fun n6 => KL Go.Eng.Ex.ret [(Option.some (Go.Eng.AV.sc (Go.Eng.SV.int Go.IntKind.i64 n6))), (Option.some (Go.Eng.AV.sc (Go.Eng.SV.int Go.IntKind.i64 (-(1 : Int)))))] [(Option.some (Go.Eng.HE.mk Bool.false (Go.Eng.HB.rows (Go.Sa.B.iFirmTable l1))))]) (fun n7 => KL Go.Eng.Ex.normal [(Option.some (Go.Eng.AV.sc (Go.Eng.SV.int Go.IntKind.i64 n7))), Option.none] [(Option.some (Go.Eng.HE.mk Bool.false (Go.Eng.HB.rows (Go.Sa.B.iFirmTable l1))))])) (funext fun n1 => funext fun n2 => ih n1 n2))
def i_laws_heldFirmTableS_w_0 (N : Nat) {R : Type} (vs : List (Option AV)) (H : Hp E) (KL : Ex → List (Option AV) → Hp E → Option R) : Option R :=
  match vs, H with
  | [(Option.some (Go.Eng.AV.sc (Go.Eng.SV.slc 0 Option.none b1))), (Option.some (Go.Eng.AV.sc (Go.Eng.SV.int Go.IntKind.i64 n1))), (Option.some (Go.Eng.AV.sc (Go.Eng.SV.int Go.IntKind.i64 n2)))], [(Option.some (Go.Eng.HE.mk Bool.false (Go.Eng.HB.rows (Go.Sa.B.iFirmTable l1))))] => c_laws_heldFirmTableS_w_0 N b1 l1 n1 n2 (fun n8 => KL Go.Eng.Ex.ret [(Option.some (Go.Eng.AV.sc (Go.Eng.SV.int Go.IntKind.i64 n8))), (Option.some (Go.Eng.AV.sc (Go.Eng.SV.int Go.IntKind.i64 (-(1 : Int)))))] [(Option.some (Go.Eng.HE.mk Bool.false (Go.Eng.HB.rows (Go.Sa.B.iFirmTable l1))))]) (fun n9 => KL Go.Eng.Ex.normal [(Option.some (Go.Eng.AV.sc (Go.Eng.SV.int Go.IntKind.i64 n9))), Option.none] [(Option.some (Go.Eng.HE.mk Bool.false (Go.Eng.HB.rows (Go.Sa.B.iFirmTable l1))))])
  | _, _ => none
noncomputable def IT_laws_heldFirmTableS_w_0 (N : Nat) : Its E := addIt 0 (i_laws_heldFirmTableS_w_0 N) (noIt)
theorem IT_laws_heldFirmTableS_w_0_ok (N : Nat) : ItOk (IT_laws_heldFirmTableS_w_0 N) 1 42 sl_laws_heldFirmTableS_w (lsB Go.Proofs.Try.f52 [0]) :=
  addItB_ok (inner := []) ok (O_laws_heldFirmTableS_w_ok N) (jn_ok _ _) (noIt_ok) rfl (by kernel_rfl) rfl fun vs H KL r h => by
    unfold i_laws_heldFirmTableS_w_0 at h
    split at h
    · exact ⟨_, (le_laws_heldFirmTableS_w_0 N _ _ KL N _ _).trans h⟩
    · cases h
def g_laws_heldFirmTableS_w (N : Nat) {R : Type} (b : Bool) (n : Int) (l : List Go.Sa.FirmTable) (k : Int → Option R) : Option R :=
  (c_laws_heldFirmTableS_w_0 N b l n (0 : Int) (fun n3 =>
  (k (-(1 : Int)))) (fun n4 =>
  (k n4)))
theorem e_laws_heldFirmTableS_w (N : Nat) {R : Type} (b : Bool) (n : Int) (l : List Go.Sa.FirmTable) (K : AV → Hp E → Option R) :
    runFnI (E := E) (O_laws_heldFirmTableS_w N) (IT_laws_heldFirmTableS_w_0 N) sl_laws_heldFirmTableS_w J_laws_heldFirmTableS_w Go.Proofs.Try.f52 [(Go.Eng.AV.sc (Go.Eng.SV.slc 0 Option.none b)), (Go.Eng.AV.sc (Go.Eng.SV.int Go.IntKind.i64 n))] [(Option.some (Go.Eng.HE.mk Bool.false (Go.Eng.HB.rows (Go.Sa.B.iFirmTable l))))] K =
      g_laws_heldFirmTableS_w N b n l (fun n5 => K (Go.Eng.AV.sc (Go.Eng.SV.int Go.IntKind.i64 n5)) [(Option.some (Go.Eng.HE.mk Bool.false (Go.Eng.HB.rows (Go.Sa.B.iFirmTable l))))]) := by kernel_rfl
def o_laws_heldFirmTableS_w (N : Nat) {R : Type} (args : List AV) (H : Hp E) (K : AV → Hp E → Option R) : Option R :=
  match args, H with
  | [(Go.Eng.AV.sc (Go.Eng.SV.slc 0 Option.none b)), (Go.Eng.AV.sc (Go.Eng.SV.int Go.IntKind.i64 n))], [(Option.some (Go.Eng.HE.mk Bool.false (Go.Eng.HB.rows (Go.Sa.B.iFirmTable l))))] => g_laws_heldFirmTableS_w N b n l (fun n5 => K (Go.Eng.AV.sc (Go.Eng.SV.int Go.IntKind.i64 n5)) [(Option.some (Go.Eng.HE.mk Bool.false (Go.Eng.HB.rows (Go.Sa.B.iFirmTable l))))])
  | _, _ => none
theorem o_laws_heldFirmTableS_w_ok (N : Nat) : FnOk E 52 (o_laws_heldFirmTableS_w N) := by
  intro R args H K r h
  unfold o_laws_heldFirmTableS_w at h
  dsimp only at h
  split at h
  · exact fnB_ok (ids := [0]) (top := [0]) ok (O_laws_heldFirmTableS_w_ok N) (jn_ok _ _) Go.Proofs.Try.func52 (by kernel_rfl) (IT := IT_laws_heldFirmTableS_w_0 N) (sl := sl_laws_heldFirmTableS_w) (J := J_laws_heldFirmTableS_w) (K := K) (H := [(Option.some (Go.Eng.HE.mk Bool.false (Go.Eng.HB.rows (Go.Sa.B.iFirmTable _))))]) (IT_laws_heldFirmTableS_w_0_ok N) (by kernel_rfl) rfl ((e_laws_heldFirmTableS_w N _ _ _ K).trans h)
  · cases h
/-! ### loop.example/g00038/laws.FnExactTablesOf -/
def oc_laws_FnExactTablesOf_r_49 (N : Nat) {R : Type} (args : List AV) (H : Hp E) (K : AV → Hp E → Option R) : Option R :=
  match args, H with
  | [(Go.Eng.AV.sc (Go.Eng.SV.slc 0 Option.none _)), (Go.Eng.AV.sc (Go.Eng.SV.slc 1 Option.none _))], [(Option.some (Go.Eng.HE.mk Bool.false (Go.Eng.HB.rows (Go.Sa.B.iFirmTable _)))), (Option.some (Go.Eng.HE.mk Bool.false (Go.Eng.HB.rows (Go.Sa.B.iFirmTable _))))] => o_laws_eqFirmTableS_ww N args H K
  | [(Go.Eng.AV.sc (Go.Eng.SV.slc 0 Option.none _)), (Go.Eng.AV.sc (Go.Eng.SV.slc 1 Option.none _))], [(Option.some (Go.Eng.HE.mk Bool.true (Go.Eng.HB.rows (Go.Sa.B.iFirmTable _)))), (Option.some (Go.Eng.HE.mk Bool.true (Go.Eng.HB.rows (Go.Sa.B.iFirmTable _))))] => o_laws_eqFirmTableS_rr N args H K
  | _, _ => none
theorem oc_laws_FnExactTablesOf_r_49_ok (N : Nat) : FnOk E 49 (oc_laws_FnExactTablesOf_r_49 N) := by
  intro R args H K r h
  unfold oc_laws_FnExactTablesOf_r_49 at h
  dsimp only at h
  split at h
  · exact o_laws_eqFirmTableS_ww_ok N _ _ _ _ h
  · exact o_laws_eqFirmTableS_rr_ok N _ _ _ _ h
  · cases h
abbrev sl_laws_FnExactTablesOf_r : SlotT := []
abbrev J_laws_FnExactTablesOf_r : JT := jn [(14, [(42, .b)])] []
noncomputable def O_laws_FnExactTablesOf_r (N : Nat) : Orc E := addFn 52 (o_laws_heldFirmTableS_w N) (addFn 51 (o_laws_markFirmTableS_w N) (addFn 50 (o_laws_markBoard_w N) (addFn 28 (o_laws_eqBoard_rr N) (addFn 49 (oc_laws_FnExactTablesOf_r_49 N) (addFn 48 (o_impl_TablesOf_w N) (addFn 47 (o_spec_TablesOf_w N) (addFn 26 (o_laws_toBoard_r N) (addFn 24 (o_laws_szBoard_r N) (noFn)))))))))
theorem O_laws_FnExactTablesOf_r_ok (N : Nat) : OrcOk (O_laws_FnExactTablesOf_r N) := addFn_ok (o_laws_heldFirmTableS_w_ok N) (addFn_ok (o_laws_markFirmTableS_w_ok N) (addFn_ok (o_laws_markBoard_w_ok N) (addFn_ok (o_laws_eqBoard_rr_ok N) (addFn_ok (oc_laws_FnExactTablesOf_r_49_ok N) (addFn_ok (o_impl_TablesOf_w_ok N) (addFn_ok (o_spec_TablesOf_w_ok N) (addFn_ok (o_laws_toBoard_r_ok N) (addFn_ok (o_laws_szBoard_r_ok N) (noFn_ok)))))))))
def g_laws_FnExactTablesOf_r (N : Nat) {R : Type} (n : Int) (n1 : Int) (b : Bool) (l : List Go.Sa.Device) (k : Bool → Option R) : Option R :=
  (g_laws_szBoard_r N n n1 b (1048576 : Int) l fun n2 =>
  (cond (decide ((n2 < (0 : Int))))
  (k Bool.true)
  (g_laws_toBoard_r N n n1 b l fun l1 =>
    (g_spec_TablesOf_w N n n1 Bool.false l1 fun l2 =>
    (g_laws_toBoard_r N n n1 b l fun l3 =>
    (g_impl_TablesOf_w N n n1 Bool.false l3 fun b1 l4 =>
    (g_laws_eqFirmTableS_ww N b1 Bool.false l4 l2 fun b2 =>
    (cond (!b2)
    (k Bool.false)
    (g_laws_toBoard_r N n n1 b l fun l5 =>
      (g_laws_eqBoard_rr N n n1 Bool.false n n1 Bool.false l3 l5 fun b3 =>
      (cond (!b3)
      (k Bool.false)
      (g_laws_markBoard_w N n n1 Bool.false (1 : Int) l3 fun n3 l6 =>
        (oK (cond (decide ((n3 < (0 : Int))))
          (some Bool.true)
          (g_laws_eqFirmTableS_rr N b1 Bool.false l4 l2 fun b4 =>
            (some (!b4)))) fun j =>
        (cond j
        (k Bool.false)
        (g_laws_markFirmTableS_w N b1 (1 : Int) l4 fun n4 l7 =>
          (g_laws_heldFirmTableS_w N b1 (1 : Int) l7 fun n5 =>
          (cond (decide ((n5 < (0 : Int))))
          (k Bool.false)
          (cond (n5 != n4)
            (k Bool.false)
            (g_laws_toBoard_r N n n1 b l fun l8 =>
              (g_impl_TablesOf_w N n n1 Bool.false l8 fun b5 l9 =>
              (g_laws_eqFirmTableS_ww N b5 Bool.false l9 l2 fun b6 =>
              (cond (!b6)
              (k Bool.false)
              (g_laws_heldFirmTableS_w N b1 (1 : Int) l7 fun n6 =>
                (cond (decide ((n6 < (0 : Int))))
                (k Bool.false)
                (cond (n6 != n4)
                  (k Bool.false)
                  (k Bool.true))))))))))))))))))))))))))
theorem e_laws_FnExactTablesOf_r (N : Nat) {R : Type} (n : Int) (n1 : Int) (b : Bool) (l : List Go.Sa.Device) (K : AV → Hp E → Option R) :
    runFnI (E := E) (O_laws_FnExactTablesOf_r N) (noIt) sl_laws_FnExactTablesOf_r J_laws_FnExactTablesOf_r Go.Proofs.Try.f11 [(Go.Eng.AV.agg [(Go.Eng.SV.int Go.IntKind.i64 n), (Go.Eng.SV.int Go.IntKind.i64 n1), (Go.Eng.SV.slc 0 Option.none b)])] [(Option.some (Go.Eng.HE.mk Bool.true (Go.Eng.HB.rows (Go.Sa.B.lDevice l))))] K =
      g_laws_FnExactTablesOf_r N n n1 b l (fun b7 => K (Go.Eng.AV.sc (Go.Eng.SV.bool b7)) [(Option.some (Go.Eng.HE.mk Bool.true (Go.Eng.HB.rows (Go.Sa.B.lDevice l))))]) := by kernel_rfl
def o_laws_FnExactTablesOf_r (N : Nat) {R : Type} (args : List AV) (H : Hp E) (K : AV → Hp E → Option R) : Option R :=
  match args, H with
  | [(Go.Eng.AV.agg [(Go.Eng.SV.int Go.IntKind.i64 n), (Go.Eng.SV.int Go.IntKind.i64 n1), (Go.Eng.SV.slc 0 Option.none b)])], [(Option.some (Go.Eng.HE.mk Bool.true (Go.Eng.HB.rows (Go.Sa.B.lDevice l))))] => g_laws_FnExactTablesOf_r N n n1 b l (fun b7 => K (Go.Eng.AV.sc (Go.Eng.SV.bool b7)) [(Option.some (Go.Eng.HE.mk Bool.true (Go.Eng.HB.rows (Go.Sa.B.lDevice l))))])
  | _, _ => none
theorem o_laws_FnExactTablesOf_r_ok (N : Nat) : FnOk E 11 (o_laws_FnExactTablesOf_r N) := by
  intro R args H K r h
  unfold o_laws_FnExactTablesOf_r at h
  dsimp only at h
  split at h
  · exact fnB_ok (ids := []) (top := []) ok (O_laws_FnExactTablesOf_r_ok N) (jn_ok _ _) Go.Proofs.Try.func11 (by kernel_rfl) (IT := noIt) (sl := sl_laws_FnExactTablesOf_r) (J := J_laws_FnExactTablesOf_r) (K := K) (H := [(Option.some (Go.Eng.HE.mk Bool.true (Go.Eng.HB.rows (Go.Sa.B.lDevice _))))]) (noIt_ok) (by kernel_rfl) rfl ((e_laws_FnExactTablesOf_r N _ _ _ _ K).trans h)
  · cases h
end Go.Sa
