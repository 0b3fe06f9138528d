import Derived.Test.YtmmgjioemnhoaaaSpec
import Derived.Test.YtmmgjioemnhoaaaPLb
import Derived.Test.YtmmgjioemnhoaaaW0
set_option linter.all false
namespace Go.Sa
open Go Go.Eng Go.Proofs
set_option maxRecDepth 100000
/-! ### loop.example/g00038/laws.markVolumeRes -/
abbrev sl_laws_markVolumeRes_w : SlotT := []
abbrev J_laws_markVolumeRes_w : JT := jn [] [] []
noncomputable def O_laws_markVolumeRes_w (N : Nat) : Orc E := addFn 53 (o_laws_markVolume_w N) (noFn)
theorem O_laws_markVolumeRes_w_ok (N : Nat) : OrcOk (O_laws_markVolumeRes_w N) := addFn_ok (o_laws_markVolume_w_ok N) (noFn_ok)
def g_laws_markVolumeRes_w (N : Nat) {R : Type} (n : Int) (b : Bool) (s : ByteArray) (n1 : Int) (l : List Go.Sa.KeySlot) (k : Int → (List Go.Sa.KeySlot) → Option R) : Option R :=
  (g_laws_markVolume_w N b s n1 l fun n2 l1 =>
  (k n2 l1))
theorem e_laws_markVolumeRes_w (N : Nat) {R : Type} (n : Int) (b : Bool) (s : ByteArray) (n1 : Int) (l : List Go.Sa.KeySlot) (K : AV → Hp E → Option R) :
    runFnI (E := E) (O_laws_markVolumeRes_w N) (noIt) sl_laws_markVolumeRes_w J_laws_markVolumeRes_w Go.Proofs.Try.f32 [(Go.Eng.AV.agg [(Go.Eng.SV.int Go.IntKind.i64 n), (Go.Eng.SV.slc 0 Option.none b), (Go.Eng.SV.str s)]), (Go.Eng.AV.sc (Go.Eng.SV.int Go.IntKind.i64 n1))] [(Option.some (Go.Eng.HE.mk Bool.false (Go.Eng.HB.rows (Go.Sa.B.iKeySlot l))))] K =
      g_laws_markVolumeRes_w N n b s n1 l (fun n3 l2 => K (Go.Eng.AV.sc (Go.Eng.SV.int Go.IntKind.i64 n3)) [(Option.some (Go.Eng.HE.mk Bool.false (Go.Eng.HB.rows (Go.Sa.B.iKeySlot l2))))]) := by kernel_rfl
def o_laws_markVolumeRes_w (N : Nat) {R : Type} (args : List AV) (H : Hp E) (K : AV → Hp E → Option R) : Option R :=
  match args, H with
  | [(Go.Eng.AV.agg [(Go.Eng.SV.int Go.IntKind.i64 n), (Go.Eng.SV.slc 0 Option.none b), (Go.Eng.SV.str s)]), (Go.Eng.AV.sc (Go.Eng.SV.int Go.IntKind.i64 n1))], [(Option.some (Go.Eng.HE.mk Bool.false (Go.Eng.HB.rows (Go.Sa.B.iKeySlot l))))] => g_laws_markVolumeRes_w N n b s n1 l (fun n3 l2 => K (Go.Eng.AV.sc (Go.Eng.SV.int Go.IntKind.i64 n3)) [(Option.some (Go.Eng.HE.mk Bool.false (Go.Eng.HB.rows (Go.Sa.B.iKeySlot l2))))])
  | _, _ => none
theorem o_laws_markVolumeRes_w_ok (N : Nat) : FnOk E 32 (o_laws_markVolumeRes_w N) := by
  intro R args H K r h
  unfold o_laws_markVolumeRes_w at h
  dsimp only at h
  split at h
  · exact fnB_ok (ids := []) (top := []) ok (O_laws_markVolumeRes_w_ok N) (jn_ok _ _ _) Go.Proofs.Try.func32 (by kernel_rfl) (IT := noIt) (sl := sl_laws_markVolumeRes_w) (J := J_laws_markVolumeRes_w) (K := K) (H := [(Option.some (Go.Eng.HE.mk Bool.false (Go.Eng.HB.rows (Go.Sa.B.iKeySlot _))))]) (noIt_ok) (by kernel_rfl) rfl ((e_laws_markVolumeRes_w N _ _ _ _ _ K).trans h)
  · cases h
/-! ### loop.example/g00038/laws.heldKeySlotS -/
abbrev sl_laws_heldKeySlotS_w : SlotT := [(0, ([0, 1, 5], [1, 4]))]
abbrev J_laws_heldKeySlotS_w : JT := jn [] [] []
noncomputable def O_laws_heldKeySlotS_w (N : Nat) : Orc E := addFn 122 (o_laws_markText N) (noFn)
theorem O_laws_heldKeySlotS_w_ok (N : Nat) : OrcOk (O_laws_heldKeySlotS_w N) := addFn_ok (o_laws_markText_ok N) (noFn_ok)
def s_laws_heldKeySlotS_w_0 (N : Nat) {R : Type} (b1 : Bool) (l1 : List Go.Sa.KeySlot) (n1 : Int) (n2 : Int) (ag : Int → Int → Option R)  (kR : Int → Option R) (kN : Int → Option R) : Option R :=
  (cond (decide ((n2 < (((List.length l1) : Nat) : Int))))
  (cond ((decide (((0 : Int) ≤ n2))) && (decide ((n2 < (((List.length l1) : Nat) : Int)))))
    (elemK l1 (Int.toNat n2) fun x =>
      (cond ((Go.Sa.KeySlot.fSalt x) != n1)
      (kR n1)
      (cond ((decide (((0 : Int) ≤ n2))) && (decide ((n2 < (((List.length l1) : Nat) : Int)))))
        (elemK l1 (Int.toNat n2) fun x1 =>
          (g_laws_markText N (Go.IntKind.wrap Go.IntKind.i64 (n1 + (1 : Int))) fun s =>
          (cond (!(decide (((Go.Sa.KeySlot.fKey x1) = s))))
          (kR (Go.IntKind.wrap Go.IntKind.i64 (n1 + (1 : Int))))
          (cond ((decide (((0 : Int) ≤ n2))) && (decide ((n2 < (((List.length l1) : Nat) : Int)))))
            (elemK l1 (Int.toNat n2) fun x2 =>
              (g_laws_markText N (Go.IntKind.wrap Go.IntKind.i64 ((Go.IntKind.wrap Go.IntKind.i64 (n1 + (1 : Int))) + (1 : Int))) fun s1 =>
              (cond (!(decide (((Go.Sa.KeySlot.fTag x2) = s1))))
              (kR (Go.IntKind.wrap Go.IntKind.i64 ((Go.IntKind.wrap Go.IntKind.i64 (n1 + (1 : Int))) + (1 : Int))))
              (ag (Go.IntKind.wrap Go.IntKind.i64 ((Go.IntKind.wrap Go.IntKind.i64 ((Go.IntKind.wrap Go.IntKind.i64 (n1 + (1 : Int))) + (1 : Int))) + (1 : Int))) (Go.IntKind.wrap Go.IntKind.i64 (n2 + (1 : Int)))))))
            none))))
        none)))
    none)
  (kN n1))
def l_laws_heldKeySlotS_w_0 (N : Nat) {R : Type} (b1 : Bool) (l1 : List Go.Sa.KeySlot) (kR : Int → Option R) (kN : Int → Option R) : Nat → Int → Int → Option R
  | 0, _, _ => none
  | f + 1, n1, n2 => s_laws_heldKeySlotS_w_0 N b1 l1 n1 n2 (fun n1 n2 => l_laws_heldKeySlotS_w_0 N b1 l1 kR kN f n1 n2)  kR kN
def c_laws_heldKeySlotS_w_0 (N : Nat) {R : Type} (b1 : Bool) (l1 : List Go.Sa.KeySlot) (n1 : Int) (n2 : Int) (kR : Int → Option R) (kN : Int → Option R) : Option R := l_laws_heldKeySlotS_w_0 N b1 l1 kR kN N n1 n2
theorem se_laws_heldKeySlotS_w_0 (N : Nat) {R : Type} (b1 : Bool) (l1 : List Go.Sa.KeySlot) (n1 : Int) (n2 : Int) (AG : List (Option AV) → Hp E → Option R) (KL : Ex → List (Option AV) → Hp E → Option R) :
    iterStep (E := E) (O_laws_heldKeySlotS_w N) (fun {R} => LI (noIt) 1 42 sl_laws_heldKeySlotS_w (R := R)) J_laws_heldKeySlotS_w 1 42 0 [0, 1, 5] [1, 4] (body Go.Proofs.Try.f114 0) AG KL [(Option.some (Go.Eng.AV.sc (Go.Eng.SV.slc 0 Option.none b1))), (Option.some (Go.Eng.AV.sc (Go.Eng.SV.int Go.IntKind.i64 n1))), (Option.some (Go.Eng.AV.sc (Go.Eng.SV.int Go.IntKind.i64 n2)))] [(Option.some (Go.Eng.HE.mk Bool.false (Go.Eng.HB.rows (Go.Sa.B.iKeySlot l1))))] =
      s_laws_heldKeySlotS_w_0 N b1 l1 n1 n2 (fun n1 n2 => AG [(Option.some (Go.Eng.AV.sc (Go.Eng.SV.slc 0 Option.none b1))), (Option.some (Go.Eng.AV.sc (Go.Eng.SV.int Go.IntKind.i64 n1))), (Option.some (Go.Eng.AV.sc (Go.Eng.SV.int Go.IntKind.i64 n2)))] [(Option.some (Go.Eng.HE.mk Bool.false (Go.Eng.HB.rows (Go.Sa.B.iKeySlot l1))))])  (fun n6 => KL Go.Eng.Ex.ret [(Option.some (Go.Eng.AV.sc (Go.Eng.SV.int Go.IntKind.i64 n6))), (Option.some (Go.Eng.AV.sc (Go.Eng.SV.int Go.IntKind.i64 (-(1 : Int)))))] [(Option.some (Go.Eng.HE.mk Bool.false (Go.Eng.HB.rows (Go.Sa.B.iKeySlot l1))))]) (fun n7 => KL Go.Eng.Ex.normal [(Option.some (Go.Eng.AV.sc (Go.Eng.SV.int Go.IntKind.i64 n7))), Option.none] [(Option.some (Go.Eng.HE.mk Bool.false (Go.Eng.HB.rows (Go.Sa.B.iKeySlot l1))))]) := by kernel_rfl
theorem le_laws_heldKeySlotS_w_0 (N : Nat) {R : Type} (b1 : Bool) (l1 : List Go.Sa.KeySlot) (KL : Ex → List (Option AV) → Hp E → Option R) : ∀ (f : Nat), ∀ (n1 : Int) (n2 : Int), iterK (E := E) (O_laws_heldKeySlotS_w N) (fun {R} => LI (noIt) 1 42 sl_laws_heldKeySlotS_w (R := R)) J_laws_heldKeySlotS_w 1 42 0 [0, 1, 5] [1, 4] (body Go.Proofs.Try.f114 0) f [(Option.some (Go.Eng.AV.sc (Go.Eng.SV.slc 0 Option.none b1))), (Option.some (Go.Eng.AV.sc (Go.Eng.SV.int Go.IntKind.i64 n1))), (Option.some (Go.Eng.AV.sc (Go.Eng.SV.int Go.IntKind.i64 n2)))] [(Option.some (Go.Eng.HE.mk Bool.false (Go.Eng.HB.rows (Go.Sa.B.iKeySlot l1))))] KL = l_laws_heldKeySlotS_w_0 N b1 l1 (fun n6 => KL Go.Eng.Ex.ret [(Option.some (Go.Eng.AV.sc (Go.Eng.SV.int Go.IntKind.i64 n6))), (Option.some (Go.Eng.AV.sc (Go.Eng.SV.int Go.IntKind.i64 (-(1 : Int)))))] [(Option.some (Go.Eng.HE.mk Bool.false (Go.Eng.HB.rows (Go.Sa.B.iKeySlot l1))))]) (fun n7 => KL Go.Eng.Ex.normal [(Option.some (Go.Eng.AV.sc (Go.Eng.SV.int Go.IntKind.i64 n7))), Option.none] [(Option.some (Go.Eng.HE.mk Bool.false (Go.Eng.HB.rows (Go.Sa.B.iKeySlot l1))))]) f n1 n2 := by
  intro f
  induction f with
  | zero => intros; rfl
  | succ f ih =>
    intro n1 n2
    rw [iterK_succ, se_laws_heldKeySlotS_w_0]
    exact (congrArg (fun z0 => s_laws_heldKeySlotS_w_0 N b1 l1 n1 n2 z0 (fun n6 => KL Go.Eng.Ex.ret [(Option.some (Go.Eng.AV.sc (Go.Eng.SV.int Go.IntKind.i64 n6))), (Option.some (Go.Eng.AV.sc (Go.Eng.SV.int Go.IntKind.i64 (-(1 : Int)))))] [(Option.some (Go.Eng.HE.mk Bool.false (Go.Eng.HB.rows (Go.Sa.B.iKeySlot l1))))]) (fun n7 => KL Go.Eng.Ex.normal [(Option.some (Go.Eng.AV.sc (Go.Eng.SV.int Go.IntKind.i64 n7))), Option.none] [(Option.some (Go.Eng.HE.mk Bool.false (Go.Eng.HB.rows (Go.Sa.B.iKeySlot l1))))])) (funext fun n1 => funext fun n2 => ih n1 n2))
def i_laws_heldKeySlotS_w_0 (N : Nat) {R : Type} (vs : List (Option AV)) (H : Hp E) (KL : Ex → List (Option AV) → Hp E → Option R) : Option R :=
  match vs, H with
  | [(Option.some (Go.Eng.AV.sc (Go.Eng.SV.slc 0 Option.none b1))), (Option.some (Go.Eng.AV.sc (Go.Eng.SV.int Go.IntKind.i64 n1))), (Option.some (Go.Eng.AV.sc (Go.Eng.SV.int Go.IntKind.i64 n2)))], [(Option.some (Go.Eng.HE.mk Bool.false (Go.Eng.HB.rows (Go.Sa.B.iKeySlot l1))))] => c_laws_heldKeySlotS_w_0 N b1 l1 n1 n2 (fun n8 => KL Go.Eng.Ex.ret [(Option.some (Go.Eng.AV.sc (Go.Eng.SV.int Go.IntKind.i64 n8))), (Option.some (Go.Eng.AV.sc (Go.Eng.SV.int Go.IntKind.i64 (-(1 : Int)))))] [(Option.some (Go.Eng.HE.mk Bool.false (Go.Eng.HB.rows (Go.Sa.B.iKeySlot l1))))]) (fun n9 => KL Go.Eng.Ex.normal [(Option.some (Go.Eng.AV.sc (Go.Eng.SV.int Go.IntKind.i64 n9))), Option.none] [(Option.some (Go.Eng.HE.mk Bool.false (Go.Eng.HB.rows (Go.Sa.B.iKeySlot l1))))])
  | _, _ => none
noncomputable def IT_laws_heldKeySlotS_w_0 (N : Nat) : Its E := addIt 0 (i_laws_heldKeySlotS_w_0 N) (noIt)
theorem IT_laws_heldKeySlotS_w_0_ok (N : Nat) : ItOk (IT_laws_heldKeySlotS_w_0 N) 1 42 sl_laws_heldKeySlotS_w (lsB Go.Proofs.Try.f114 [0]) :=
  addItB_ok (inner := []) ok (O_laws_heldKeySlotS_w_ok N) (jn_ok _ _ _) (noIt_ok) rfl (by kernel_rfl) rfl fun vs H KL r h => by
    unfold i_laws_heldKeySlotS_w_0 at h
    split at h
    · exact ⟨_, (le_laws_heldKeySlotS_w_0 N _ _ KL N _ _).trans h⟩
    · cases h
def g_laws_heldKeySlotS_w (N : Nat) {R : Type} (b : Bool) (n : Int) (l : List Go.Sa.KeySlot) (k : Int → Option R) : Option R :=
  (c_laws_heldKeySlotS_w_0 N b l n (0 : Int) (fun n3 =>
  (k (-(1 : Int)))) (fun n4 =>
  (k n4)))
theorem e_laws_heldKeySlotS_w (N : Nat) {R : Type} (b : Bool) (n : Int) (l : List Go.Sa.KeySlot) (K : AV → Hp E → Option R) :
    runFnI (E := E) (O_laws_heldKeySlotS_w N) (IT_laws_heldKeySlotS_w_0 N) sl_laws_heldKeySlotS_w J_laws_heldKeySlotS_w Go.Proofs.Try.f114 [(Go.Eng.AV.sc (Go.Eng.SV.slc 0 Option.none b)), (Go.Eng.AV.sc (Go.Eng.SV.int Go.IntKind.i64 n))] [(Option.some (Go.Eng.HE.mk Bool.false (Go.Eng.HB.rows (Go.Sa.B.iKeySlot l))))] K =
      g_laws_heldKeySlotS_w N b n l (fun n5 => K (Go.Eng.AV.sc (Go.Eng.SV.int Go.IntKind.i64 n5)) [(Option.some (Go.Eng.HE.mk Bool.false (Go.Eng.HB.rows (Go.Sa.B.iKeySlot l))))]) := by kernel_rfl
def o_laws_heldKeySlotS_w (N : Nat) {R : Type} (args : List AV) (H : Hp E) (K : AV → Hp E → Option R) : Option R :=
  match args, H with
  | [(Go.Eng.AV.sc (Go.Eng.SV.slc 0 Option.none b)), (Go.Eng.AV.sc (Go.Eng.SV.int Go.IntKind.i64 n))], [(Option.some (Go.Eng.HE.mk Bool.false (Go.Eng.HB.rows (Go.Sa.B.iKeySlot l))))] => g_laws_heldKeySlotS_w N b n l (fun n5 => K (Go.Eng.AV.sc (Go.Eng.SV.int Go.IntKind.i64 n5)) [(Option.some (Go.Eng.HE.mk Bool.false (Go.Eng.HB.rows (Go.Sa.B.iKeySlot l))))])
  | _, _ => none
theorem o_laws_heldKeySlotS_w_ok (N : Nat) : FnOk E 114 (o_laws_heldKeySlotS_w N) := by
  intro R args H K r h
  unfold o_laws_heldKeySlotS_w at h
  dsimp only at h
  split at h
  · exact fnB_ok (ids := [0]) (top := [0]) ok (O_laws_heldKeySlotS_w_ok N) (jn_ok _ _ _) Go.Proofs.Try.func114 (by kernel_rfl) (IT := IT_laws_heldKeySlotS_w_0 N) (sl := sl_laws_heldKeySlotS_w) (J := J_laws_heldKeySlotS_w) (K := K) (H := [(Option.some (Go.Eng.HE.mk Bool.false (Go.Eng.HB.rows (Go.Sa.B.iKeySlot _))))]) (IT_laws_heldKeySlotS_w_0_ok N) (by kernel_rfl) rfl ((e_laws_heldKeySlotS_w N _ _ _ K).trans h)
  · cases h
/-! ### loop.example/g00038/laws.heldVolume -/
abbrev sl_laws_heldVolume_w : SlotT := []
abbrev J_laws_heldVolume_w : JT := jn [] [] []
noncomputable def O_laws_heldVolume_w (N : Nat) : Orc E := addFn 114 (o_laws_heldKeySlotS_w N) (noFn)
theorem O_laws_heldVolume_w_ok (N : Nat) : OrcOk (O_laws_heldVolume_w N) := addFn_ok (o_laws_heldKeySlotS_w_ok N) (noFn_ok)
def g_laws_heldVolume_w (N : Nat) {R : Type} (b : Bool) (s : ByteArray) (n : Int) (l : List Go.Sa.KeySlot) (k : Int → Option R) : Option R :=
  (g_laws_heldKeySlotS_w N b n l fun n1 =>
  (cond (decide ((n1 < (0 : Int))))
  (k (-(1 : Int)))
  (k n1)))
theorem e_laws_heldVolume_w (N : Nat) {R : Type} (b : Bool) (s : ByteArray) (n : Int) (l : List Go.Sa.KeySlot) (K : AV → Hp E → Option R) :
    runFnI (E := E) (O_laws_heldVolume_w N) (noIt) sl_laws_heldVolume_w J_laws_heldVolume_w Go.Proofs.Try.f82 [(Go.Eng.AV.agg [(Go.Eng.SV.slc 0 Option.none b), (Go.Eng.SV.str s)]), (Go.Eng.AV.sc (Go.Eng.SV.int Go.IntKind.i64 n))] [(Option.some (Go.Eng.HE.mk Bool.false (Go.Eng.HB.rows (Go.Sa.B.iKeySlot l))))] K =
      g_laws_heldVolume_w N b s n l (fun n2 => K (Go.Eng.AV.sc (Go.Eng.SV.int Go.IntKind.i64 n2)) [(Option.some (Go.Eng.HE.mk Bool.false (Go.Eng.HB.rows (Go.Sa.B.iKeySlot l))))]) := by kernel_rfl
def o_laws_heldVolume_w (N : Nat) {R : Type} (args : List AV) (H : Hp E) (K : AV → Hp E → Option R) : Option R :=
  match args, H with
  | [(Go.Eng.AV.agg [(Go.Eng.SV.slc 0 Option.none b), (Go.Eng.SV.str s)]), (Go.Eng.AV.sc (Go.Eng.SV.int Go.IntKind.i64 n))], [(Option.some (Go.Eng.HE.mk Bool.false (Go.Eng.HB.rows (Go.Sa.B.iKeySlot l))))] => g_laws_heldVolume_w N b s n l (fun n2 => K (Go.Eng.AV.sc (Go.Eng.SV.int Go.IntKind.i64 n2)) [(Option.some (Go.Eng.HE.mk Bool.false (Go.Eng.HB.rows (Go.Sa.B.iKeySlot l))))])
  | _, _ => none
theorem o_laws_heldVolume_w_ok (N : Nat) : FnOk E 82 (o_laws_heldVolume_w N) := by
  intro R args H K r h
  unfold o_laws_heldVolume_w at h
  dsimp only at h
  split at h
  · exact fnB_ok (ids := []) (top := []) ok (O_laws_heldVolume_w_ok N) (jn_ok _ _ _) Go.Proofs.Try.func82 (by kernel_rfl) (IT := noIt) (sl := sl_laws_heldVolume_w) (J := J_laws_heldVolume_w) (K := K) (H := [(Option.some (Go.Eng.HE.mk Bool.false (Go.Eng.HB.rows (Go.Sa.B.iKeySlot _))))]) (noIt_ok) (by kernel_rfl) rfl ((e_laws_heldVolume_w N _ _ _ _ K).trans h)
  · cases h
/-! ### loop.example/g00038/laws.heldVolumeRes -/
abbrev sl_laws_heldVolumeRes_w : SlotT := []
abbrev J_laws_heldVolumeRes_w : JT := jn [] [] []
noncomputable def O_laws_heldVolumeRes_w (N : Nat) : Orc E := addFn 82 (o_laws_heldVolume_w N) (noFn)
theorem O_laws_heldVolumeRes_w_ok (N : Nat) : OrcOk (O_laws_heldVolumeRes_w N) := addFn_ok (o_laws_heldVolume_w_ok N) (noFn_ok)
def g_laws_heldVolumeRes_w (N : Nat) {R : Type} (n : Int) (b : Bool) (s : ByteArray) (n1 : Int) (l : List Go.Sa.KeySlot) (k : Int → Option R) : Option R :=
  (g_laws_heldVolume_w N b s n1 l fun n2 =>
  (cond (decide ((n2 < (0 : Int))))
  (k (-(1 : Int)))
  (k n2)))
theorem e_laws_heldVolumeRes_w (N : Nat) {R : Type} (n : Int) (b : Bool) (s : ByteArray) (n1 : Int) (l : List Go.Sa.KeySlot) (K : AV → Hp E → Option R) :
    runFnI (E := E) (O_laws_heldVolumeRes_w N) (noIt) sl_laws_heldVolumeRes_w J_laws_heldVolumeRes_w Go.Proofs.Try.f33 [(Go.Eng.AV.agg [(Go.Eng.SV.int Go.IntKind.i64 n), (Go.Eng.SV.slc 0 Option.none b), (Go.Eng.SV.str s)]), (Go.Eng.AV.sc (Go.Eng.SV.int Go.IntKind.i64 n1))] [(Option.some (Go.Eng.HE.mk Bool.false (Go.Eng.HB.rows (Go.Sa.B.iKeySlot l))))] K =
      g_laws_heldVolumeRes_w N n b s n1 l (fun n3 => K (Go.Eng.AV.sc (Go.Eng.SV.int Go.IntKind.i64 n3)) [(Option.some (Go.Eng.HE.mk Bool.false (Go.Eng.HB.rows (Go.Sa.B.iKeySlot l))))]) := by kernel_rfl
def o_laws_heldVolumeRes_w (N : Nat) {R : Type} (args : List AV) (H : Hp E) (K : AV → Hp E → Option R) : Option R :=
  match args, H with
  | [(Go.Eng.AV.agg [(Go.Eng.SV.int Go.IntKind.i64 n), (Go.Eng.SV.slc 0 Option.none b), (Go.Eng.SV.str s)]), (Go.Eng.AV.sc (Go.Eng.SV.int Go.IntKind.i64 n1))], [(Option.some (Go.Eng.HE.mk Bool.false (Go.Eng.HB.rows (Go.Sa.B.iKeySlot l))))] => g_laws_heldVolumeRes_w N n b s n1 l (fun n3 => K (Go.Eng.AV.sc (Go.Eng.SV.int Go.IntKind.i64 n3)) [(Option.some (Go.Eng.HE.mk Bool.false (Go.Eng.HB.rows (Go.Sa.B.iKeySlot l))))])
  | _, _ => none
theorem o_laws_heldVolumeRes_w_ok (N : Nat) : FnOk E 33 (o_laws_heldVolumeRes_w N) := by
  intro R args H K r h
  unfold o_laws_heldVolumeRes_w at h
  dsimp only at h
  split at h
  · exact fnB_ok (ids := []) (top := []) ok (O_laws_heldVolumeRes_w_ok N) (jn_ok _ _ _) Go.Proofs.Try.func33 (by kernel_rfl) (IT := noIt) (sl := sl_laws_heldVolumeRes_w) (J := J_laws_heldVolumeRes_w) (K := K) (H := [(Option.some (Go.Eng.HE.mk Bool.false (Go.Eng.HB.rows (Go.Sa.B.iKeySlot _))))]) (noIt_ok) (by kernel_rfl) rfl ((e_laws_heldVolumeRes_w N _ _ _ _ _ K).trans h)
  · cases h
/-! ### loop.example/g00038/laws.FnExactMakeVolume -/
abbrev sl_laws_FnExactMakeVolume : SlotT := []
abbrev J_laws_FnExactMakeVolume : JT := jn [] [] []
noncomputable def O_laws_FnExactMakeVolume (N : Nat) : Orc E := addFn 33 (o_laws_heldVolumeRes_w N) (addFn 32 (o_laws_markVolumeRes_w N) (addFn 31 (o_laws_eqVolumeRes_ww N) (addFn 30 (o_impl_MakeVolume N) (addFn 29 (o_spec_MakeVolume N) (noFn)))))
theorem O_laws_FnExactMakeVolume_ok (N : Nat) : OrcOk (O_laws_FnExactMakeVolume N) := addFn_ok (o_laws_heldVolumeRes_w_ok N) (addFn_ok (o_laws_markVolumeRes_w_ok N) (addFn_ok (o_laws_eqVolumeRes_ww_ok N) (addFn_ok (o_impl_MakeVolume_ok N) (addFn_ok (o_spec_MakeVolume_ok N) (noFn_ok)))))
def g_laws_FnExactMakeVolume (N : Nat) {R : Type} (s : ByteArray) (s1 : ByteArray) (n : Int) (k : Bool → Option R) : Option R :=
  (cond (decide (((((ByteArray.size s) : Nat) : Int) > (1048576 : Int))))
  (k Bool.true)
  (cond (decide (((((ByteArray.size s1) : Nat) : Int) > (1048576 : Int))))
    (k Bool.true)
    (g_spec_MakeVolume N s s1 n fun n1 b s2 l =>
      (g_impl_MakeVolume N s s1 n fun n2 b1 s3 l1 =>
      (g_laws_eqVolumeRes_ww N n2 b1 s3 n1 b s2 l1 l fun b2 =>
      (cond (!b2)
      (k Bool.false)
      (g_laws_markVolumeRes_w N n2 b1 s3 (1 : Int) l1 fun n3 l2 =>
        (g_laws_heldVolumeRes_w N n2 b1 s3 (1 : Int) l2 fun n4 =>
        (cond (decide ((n4 < (0 : Int))))
        (k Bool.false)
        (cond (n4 != n3)
          (k Bool.false)
          (g_impl_MakeVolume N s s1 n fun n5 b3 s4 l3 =>
            (g_laws_eqVolumeRes_ww N n5 b3 s4 n1 b s2 l3 l fun b4 =>
            (cond (!b4)
            (k Bool.false)
            (g_laws_heldVolumeRes_w N n2 b1 s3 (1 : Int) l2 fun n6 =>
              (cond (decide ((n6 < (0 : Int))))
              (k Bool.false)
              (cond (n6 != n3)
                (k Bool.false)
                (k Bool.true)))))))))))))))))
theorem e_laws_FnExactMakeVolume (N : Nat) {R : Type} (s : ByteArray) (s1 : ByteArray) (n : Int) (K : AV → Hp E → Option R) :
    runFnI (E := E) (O_laws_FnExactMakeVolume N) (noIt) sl_laws_FnExactMakeVolume J_laws_FnExactMakeVolume Go.Proofs.Try.f6 [(Go.Eng.AV.sc (Go.Eng.SV.str s)), (Go.Eng.AV.sc (Go.Eng.SV.str s1)), (Go.Eng.AV.sc (Go.Eng.SV.int Go.IntKind.i64 n))] [] K =
      g_laws_FnExactMakeVolume N s s1 n (fun b5 => K (Go.Eng.AV.sc (Go.Eng.SV.bool b5)) []) := by kernel_rfl
def o_laws_FnExactMakeVolume (N : Nat) {R : Type} (args : List AV) (H : Hp E) (K : AV → Hp E → Option R) : Option R :=
  match args, H with
  | [(Go.Eng.AV.sc (Go.Eng.SV.str s)), (Go.Eng.AV.sc (Go.Eng.SV.str s1)), (Go.Eng.AV.sc (Go.Eng.SV.int Go.IntKind.i64 n))], [] => g_laws_FnExactMakeVolume N s s1 n (fun b5 => K (Go.Eng.AV.sc (Go.Eng.SV.bool b5)) [])
  | _, _ => none
theorem o_laws_FnExactMakeVolume_ok (N : Nat) : FnOk E 6 (o_laws_FnExactMakeVolume N) := by
  intro R args H K r h
  unfold o_laws_FnExactMakeVolume at h
  dsimp only at h
  split at h
  · exact fnB_ok (ids := []) (top := []) ok (O_laws_FnExactMakeVolume_ok N) (jn_ok _ _ _) Go.Proofs.Try.func6 (by kernel_rfl) (IT := noIt) (sl := sl_laws_FnExactMakeVolume) (J := J_laws_FnExactMakeVolume) (K := K) (H := []) (noIt_ok) (by kernel_rfl) rfl ((e_laws_FnExactMakeVolume N _ _ _ K).trans h)
  · cases h
end Go.Sa
