import Derived.Test.YtjimjkhpahegjaaSpec
import Derived.Test.YtjimjkhpahegjaaPLb
import Derived.Test.YtjimjkhpahegjaaW0
set_option linter.all false
namespace Go.Sa
open Go Go.Eng Go.Proofs
set_option maxRecDepth 100000
/-! ### loop.example/g00038/laws.eqVolumeRes -/
abbrev sl_laws_eqVolumeRes_rr : SlotT := []
abbrev J_laws_eqVolumeRes_rr : JT := jn [] [] []
noncomputable def O_laws_eqVolumeRes_rr (N : Nat) : Orc E := addFn 62 (o_laws_eqVolume_rr N) (noFn)
theorem O_laws_eqVolumeRes_rr_ok (N : Nat) : OrcOk (O_laws_eqVolumeRes_rr N) := addFn_ok (o_laws_eqVolume_rr_ok N) (noFn_ok)
def g_laws_eqVolumeRes_rr (N : Nat) {R : Type} (n : Int) (b : Bool) (s : ByteArray) (n1 : Int) (b1 : Bool) (s1 : ByteArray) (l : List Go.Sa.KeySlot) (l1 : List Go.Sa.KeySlot) (k : Bool → Option R) : Option R :=
  (cond (n != n1)
  (k Bool.false)
  (g_laws_eqVolume_rr N b s b1 s1 l l1 fun b2 =>
    (cond (!b2)
    (k Bool.false)
    (k Bool.true))))
theorem e_laws_eqVolumeRes_rr (N : Nat) {R : Type} (n : Int) (b : Bool) (s : ByteArray) (n1 : Int) (b1 : Bool) (s1 : ByteArray) (l : List Go.Sa.KeySlot) (l1 : List Go.Sa.KeySlot) (K : AV → Hp E → Option R) :
    runFnI (E := E) (O_laws_eqVolumeRes_rr N) (noIt) sl_laws_eqVolumeRes_rr J_laws_eqVolumeRes_rr Go.Proofs.Try.f61 [(Go.Eng.AV.agg [(Go.Eng.SV.int Go.IntKind.i64 n), (Go.Eng.SV.slc 0 Option.none b), (Go.Eng.SV.str s)]), (Go.Eng.AV.agg [(Go.Eng.SV.int Go.IntKind.i64 n1), (Go.Eng.SV.slc 1 Option.none b1), (Go.Eng.SV.str s1)])] [(Option.some (Go.Eng.HE.mk Bool.true (Go.Eng.HB.rows (Go.Sa.B.iKeySlot l)))), (Option.some (Go.Eng.HE.mk Bool.true (Go.Eng.HB.rows (Go.Sa.B.iKeySlot l1))))] K =
      g_laws_eqVolumeRes_rr N n b s n1 b1 s1 l l1 (fun b3 => K (Go.Eng.AV.sc (Go.Eng.SV.bool b3)) [(Option.some (Go.Eng.HE.mk Bool.true (Go.Eng.HB.rows (Go.Sa.B.iKeySlot l)))), (Option.some (Go.Eng.HE.mk Bool.true (Go.Eng.HB.rows (Go.Sa.B.iKeySlot l1))))]) := by kernel_rfl
def o_laws_eqVolumeRes_rr (N : Nat) {R : Type} (args : List AV) (H : Hp E) (K : AV → Hp E → Option R) : Option R :=
  match args, H with
  | [(Go.Eng.AV.agg [(Go.Eng.SV.int Go.IntKind.i64 n), (Go.Eng.SV.slc 0 Option.none b), (Go.Eng.SV.str s)]), (Go.Eng.AV.agg [(Go.Eng.SV.int Go.IntKind.i64 n1), (Go.Eng.SV.slc 1 Option.none b1), (Go.Eng.SV.str s1)])], [(Option.some (Go.Eng.HE.mk Bool.true (Go.Eng.HB.rows (Go.Sa.B.iKeySlot l)))), (Option.some (Go.Eng.HE.mk Bool.true (Go.Eng.HB.rows (Go.Sa.B.iKeySlot l1))))] => g_laws_eqVolumeRes_rr N n b s n1 b1 s1 l l1 (fun b3 => K (Go.Eng.AV.sc (Go.Eng.SV.bool b3)) [(Option.some (Go.Eng.HE.mk Bool.true (Go.Eng.HB.rows (Go.Sa.B.iKeySlot l)))), (Option.some (Go.Eng.HE.mk Bool.true (Go.Eng.HB.rows (Go.Sa.B.iKeySlot l1))))])
  | _, _ => none
theorem o_laws_eqVolumeRes_rr_ok (N : Nat) : FnOk E 61 (o_laws_eqVolumeRes_rr N) := by
  intro R args H K r h
  unfold o_laws_eqVolumeRes_rr at h
  dsimp only at h
  split at h
  · exact fnB_ok (ids := []) (top := []) ok (O_laws_eqVolumeRes_rr_ok N) (jn_ok _ _ _) Go.Proofs.Try.func61 (by kernel_rfl) (IT := noIt) (sl := sl_laws_eqVolumeRes_rr) (J := J_laws_eqVolumeRes_rr) (K := K) (H := [(Option.some (Go.Eng.HE.mk Bool.true (Go.Eng.HB.rows (Go.Sa.B.iKeySlot _)))), (Option.some (Go.Eng.HE.mk Bool.true (Go.Eng.HB.rows (Go.Sa.B.iKeySlot _))))]) (noIt_ok) (by kernel_rfl) rfl ((e_laws_eqVolumeRes_rr N _ _ _ _ _ _ _ _ K).trans h)
  · cases h
/-! ### loop.example/g00038/laws.markVolumeRes -/
abbrev sl_laws_markVolumeRes_w : SlotT := []
abbrev J_laws_markVolumeRes_w : JT := jn [] [] []
noncomputable def O_laws_markVolumeRes_w (N : Nat) : Orc E := addFn 63 (o_laws_markVolume_w N) (noFn)
theorem O_laws_markVolumeRes_w_ok (N : Nat) : OrcOk (O_laws_markVolumeRes_w N) := addFn_ok (o_laws_markVolume_w_ok N) (noFn_ok)
def g_laws_markVolumeRes_w (N : Nat) {R : Type} (n : Int) (b : Bool) (s : ByteArray) (n1 : Int) (l : List Go.Sa.KeySlot) (k : Int → (List Go.Sa.KeySlot) → Option R) : Option R :=
  (g_laws_markVolume_w N b s n1 l fun n2 l1 =>
  (k n2 l1))
theorem e_laws_markVolumeRes_w (N : Nat) {R : Type} (n : Int) (b : Bool) (s : ByteArray) (n1 : Int) (l : List Go.Sa.KeySlot) (K : AV → Hp E → Option R) :
    runFnI (E := E) (O_laws_markVolumeRes_w N) (noIt) sl_laws_markVolumeRes_w J_laws_markVolumeRes_w Go.Proofs.Try.f64 [(Go.Eng.AV.agg [(Go.Eng.SV.int Go.IntKind.i64 n), (Go.Eng.SV.slc 0 Option.none b), (Go.Eng.SV.str s)]), (Go.Eng.AV.sc (Go.Eng.SV.int Go.IntKind.i64 n1))] [(Option.some (Go.Eng.HE.mk Bool.false (Go.Eng.HB.rows (Go.Sa.B.iKeySlot l))))] K =
      g_laws_markVolumeRes_w N n b s n1 l (fun n3 l2 => K (Go.Eng.AV.sc (Go.Eng.SV.int Go.IntKind.i64 n3)) [(Option.some (Go.Eng.HE.mk Bool.false (Go.Eng.HB.rows (Go.Sa.B.iKeySlot l2))))]) := by kernel_rfl
def o_laws_markVolumeRes_w (N : Nat) {R : Type} (args : List AV) (H : Hp E) (K : AV → Hp E → Option R) : Option R :=
  match args, H with
  | [(Go.Eng.AV.agg [(Go.Eng.SV.int Go.IntKind.i64 n), (Go.Eng.SV.slc 0 Option.none b), (Go.Eng.SV.str s)]), (Go.Eng.AV.sc (Go.Eng.SV.int Go.IntKind.i64 n1))], [(Option.some (Go.Eng.HE.mk Bool.false (Go.Eng.HB.rows (Go.Sa.B.iKeySlot l))))] => g_laws_markVolumeRes_w N n b s n1 l (fun n3 l2 => K (Go.Eng.AV.sc (Go.Eng.SV.int Go.IntKind.i64 n3)) [(Option.some (Go.Eng.HE.mk Bool.false (Go.Eng.HB.rows (Go.Sa.B.iKeySlot l2))))])
  | _, _ => none
theorem o_laws_markVolumeRes_w_ok (N : Nat) : FnOk E 64 (o_laws_markVolumeRes_w N) := by
  intro R args H K r h
  unfold o_laws_markVolumeRes_w at h
  dsimp only at h
  split at h
  · exact fnB_ok (ids := []) (top := []) ok (O_laws_markVolumeRes_w_ok N) (jn_ok _ _ _) Go.Proofs.Try.func64 (by kernel_rfl) (IT := noIt) (sl := sl_laws_markVolumeRes_w) (J := J_laws_markVolumeRes_w) (K := K) (H := [(Option.some (Go.Eng.HE.mk Bool.false (Go.Eng.HB.rows (Go.Sa.B.iKeySlot _))))]) (noIt_ok) (by kernel_rfl) rfl ((e_laws_markVolumeRes_w N _ _ _ _ _ K).trans h)
  · cases h
/-! ### loop.example/g00038/laws.heldKeySlotS -/
abbrev sl_laws_heldKeySlotS_w : SlotT := [(0, ([0, 1, 5], [1, 4]))]
abbrev J_laws_heldKeySlotS_w : JT := jn [] [] []
noncomputable def O_laws_heldKeySlotS_w (N : Nat) : Orc E := addFn 100 (o_laws_markText N) (noFn)
theorem O_laws_heldKeySlotS_w_ok (N : Nat) : OrcOk (O_laws_heldKeySlotS_w N) := addFn_ok (o_laws_markText_ok N) (noFn_ok)
def s_laws_heldKeySlotS_w_0 (N : Nat) {R : Type} (b1 : Bool) (l1 : List Go.Sa.KeySlot) (n1 : Int) (n2 : Int) (ag : Int → Int → Option R)  (kR : Int → Option R) (kN : Int → Option R) : Option R :=
  (cond (decide ((n2 < (((List.length l1) : Nat) : Int))))
  (cond ((decide (((0 : Int) ≤ n2))) && (decide ((n2 < (((List.length l1) : Nat) : Int)))))
    (elemK l1 (Int.toNat n2) fun x =>
      (cond ((Go.Sa.KeySlot.fSalt x) != n1)
      (kR n1)
      (cond ((decide (((0 : Int) ≤ n2))) && (decide ((n2 < (((List.length l1) : Nat) : Int)))))
        (elemK l1 (Int.toNat n2) fun x1 =>
          (g_laws_markText N (Go.IntKind.wrap Go.IntKind.i64 (n1 + (1 : Int))) fun s =>
          (cond (!(decide (((Go.Sa.KeySlot.fKey x1) = s))))
          (kR (Go.IntKind.wrap Go.IntKind.i64 (n1 + (1 : Int))))
          (cond ((decide (((0 : Int) ≤ n2))) && (decide ((n2 < (((List.length l1) : Nat) : Int)))))
            (elemK l1 (Int.toNat n2) fun x2 =>
              (g_laws_markText N (Go.IntKind.wrap Go.IntKind.i64 ((Go.IntKind.wrap Go.IntKind.i64 (n1 + (1 : Int))) + (1 : Int))) fun s1 =>
              (cond (!(decide (((Go.Sa.KeySlot.fTag x2) = s1))))
              (kR (Go.IntKind.wrap Go.IntKind.i64 ((Go.IntKind.wrap Go.IntKind.i64 (n1 + (1 : Int))) + (1 : Int))))
              (ag (Go.IntKind.wrap Go.IntKind.i64 ((Go.IntKind.wrap Go.IntKind.i64 ((Go.IntKind.wrap Go.IntKind.i64 (n1 + (1 : Int))) + (1 : Int))) + (1 : Int))) (Go.IntKind.wrap Go.IntKind.i64 (n2 + (1 : Int)))))))
            none))))
        none)))
    none)
  (kN n1))
def l_laws_heldKeySlotS_w_0 (N : Nat) {R : Type} (b1 : Bool) (l1 : List Go.Sa.KeySlot) (kR : Int → Option R) (kN : Int → Option R) : Nat → Int → Int → Option R
  | 0, _, _ => none
  | f + 1, n1, n2 => s_laws_heldKeySlotS_w_0 N b1 l1 n1 n2 (fun n1 n2 => l_laws_heldKeySlotS_w_0 N b1 l1 kR kN f n1 n2)  kR kN
def c_laws_heldKeySlotS_w_0 (N : Nat) {R : Type} (b1 : Bool) (l1 : List Go.Sa.KeySlot) (n1 : Int) (n2 : Int) (kR : Int → Option R) (kN : Int → Option R) : Option R := l_laws_heldKeySlotS_w_0 N b1 l1 kR kN N n1 n2
theorem se_laws_heldKeySlotS_w_0 (N : Nat) {R : Type} (b1 : Bool) (l1 : List Go.Sa.KeySlot) (n1 : Int) (n2 : Int) (AG : List (Option AV) → Hp E → Option R) (KL : Ex → List (Option AV) → Hp E → Option R) :
    iterStep (E := E) (O_laws_heldKeySlotS_w N) (fun {R} => LI (noIt) 1 42 sl_laws_heldKeySlotS_w (R := R)) J_laws_heldKeySlotS_w 1 42 0 [0, 1, 5] [1, 4] (body Go.Proofs.Try.f154 0) AG KL [(Option.some (Go.Eng.AV.sc (Go.Eng.SV.slc 0 Option.none b1))), (Option.some (Go.Eng.AV.sc (Go.Eng.SV.int Go.IntKind.i64 n1))), (Option.some (Go.Eng.AV.sc (Go.Eng.SV.int Go.IntKind.i64 n2)))] [(Option.some (Go.Eng.HE.mk Bool.false (Go.Eng.HB.rows (Go.Sa.B.iKeySlot l1))))] =
      s_laws_heldKeySlotS_w_0 N b1 l1 n1 n2 (fun n1 n2 => AG [(Option.some (Go.Eng.AV.sc (Go.Eng.SV.slc 0 Option.none b1))), (Option.some (Go.Eng.AV.sc (Go.Eng.SV.int Go.IntKind.i64 n1))), (Option.some (Go.Eng.AV.sc (Go.Eng.SV.int Go.IntKind.i64 n2)))] [(Option.some (Go.Eng.HE.mk Bool.false (Go.Eng.HB.rows (Go.Sa.B.iKeySlot l1))))])  (fun n6 => KL Go.Eng.Ex.ret [(Option.some (Go.Eng.AV.sc (Go.Eng.SV.int Go.IntKind.i64 n6))), (Option.some (Go.Eng.AV.sc (Go.Eng.SV.int Go.IntKind.i64 (-(1 : Int)))))] [(Option.some (Go.Eng.HE.mk Bool.false (Go.Eng.HB.rows (Go.Sa.B.iKeySlot l1))))]) (fun n7 => KL Go.Eng.Ex.normal [(Option.some (Go.Eng.AV.sc (Go.Eng.SV.int Go.IntKind.i64 n7))), Option.none] [(Option.some (Go.Eng.HE.mk Bool.false (Go.Eng.HB.rows (Go.Sa.B.iKeySlot l1))))]) := by kernel_rfl
theorem le_laws_heldKeySlotS_w_0 (N : Nat) {R : Type} (b1 : Bool) (l1 : List Go.Sa.KeySlot) (KL : Ex → List (Option AV) → Hp E → Option R) : ∀ (f : Nat), ∀ (n1 : Int) (n2 : Int), iterK (E := E) (O_laws_heldKeySlotS_w N) (fun {R} => LI (noIt) 1 42 sl_laws_heldKeySlotS_w (R := R)) J_laws_heldKeySlotS_w 1 42 0 [0, 1, 5] [1, 4] (body Go.Proofs.Try.f154 0) f [(Option.some (Go.Eng.AV.sc (Go.Eng.SV.slc 0 Option.none b1))), (Option.some (Go.Eng.AV.sc (Go.Eng.SV.int Go.IntKind.i64 n1))), (Option.some (Go.Eng.AV.sc (Go.Eng.SV.int Go.IntKind.i64 n2)))] [(Option.some (Go.Eng.HE.mk Bool.false (Go.Eng.HB.rows (Go.Sa.B.iKeySlot l1))))] KL = l_laws_heldKeySlotS_w_0 N b1 l1 (fun n6 => KL Go.Eng.Ex.ret [(Option.some (Go.Eng.AV.sc (Go.Eng.SV.int Go.IntKind.i64 n6))), (Option.some (Go.Eng.AV.sc (Go.Eng.SV.int Go.IntKind.i64 (-(1 : Int)))))] [(Option.some (Go.Eng.HE.mk Bool.false (Go.Eng.HB.rows (Go.Sa.B.iKeySlot l1))))]) (fun n7 => KL Go.Eng.Ex.normal [(Option.some (Go.Eng.AV.sc (Go.Eng.SV.int Go.IntKind.i64 n7))), Option.none] [(Option.some (Go.Eng.HE.mk Bool.false (Go.Eng.HB.rows (Go.Sa.B.iKeySlot l1))))]) f n1 n2 := by
  intro f
  induction f with
  | zero => intros; rfl
  | succ f ih =>
    intro n1 n2
    rw [iterK_succ, se_laws_heldKeySlotS_w_0]
    exact (congrArg (fun z0 => s_laws_heldKeySlotS_w_0 N b1 l1 n1 n2 z0 (fun n6 => KL Go.Eng.Ex.ret [(Option.some (Go.Eng.AV.sc (Go.Eng.SV.int Go.IntKind.i64 n6))), (Option.some (Go.Eng.AV.sc (Go.Eng.SV.int Go.IntKind.i64 (-(1 : Int)))))] [(Option.some (Go.Eng.HE.mk Bool.false (Go.Eng.HB.rows (Go.Sa.B.iKeySlot l1))))]) (fun n7 => KL Go.Eng.Ex.normal [(Option.some (Go.Eng.AV.sc (Go.Eng.SV.int Go.IntKind.i64 n7))), Option.none] [(Option.some (Go.Eng.HE.mk Bool.false (Go.Eng.HB.rows (Go.Sa.B.iKeySlot l1))))])) (funext fun n1 => funext fun n2 => ih n1 n2))
def i_laws_heldKeySlotS_w_0 (N : Nat) {R : Type} (vs : List (Option AV)) (H : Hp E) (KL : Ex → List (Option AV) → Hp E → Option R) : Option R :=
  match vs, H with
  | [(Option.some (Go.Eng.AV.sc (Go.Eng.SV.slc 0 Option.none b1))), (Option.some (Go.Eng.AV.sc (Go.Eng.SV.int Go.IntKind.i64 n1))), (Option.some (Go.Eng.AV.sc (Go.Eng.SV.int Go.IntKind.i64 n2)))], [(Option.some (Go.Eng.HE.mk Bool.false (Go.Eng.HB.rows (Go.Sa.B.iKeySlot l1))))] => c_laws_heldKeySlotS_w_0 N b1 l1 n1 n2 (fun n8 => KL Go.Eng.Ex.ret [(Option.some (Go.Eng.AV.sc (Go.Eng.SV.int Go.IntKind.i64 n8))), (Option.some (Go.Eng.AV.sc (Go.Eng.SV.int Go.IntKind.i64 (-(1 : Int)))))] [(Option.some (Go.Eng.HE.mk Bool.false (Go.Eng.HB.rows (Go.Sa.B.iKeySlot l1))))]) (fun n9 => KL Go.Eng.Ex.normal [(Option.some (Go.Eng.AV.sc (Go.Eng.SV.int Go.IntKind.i64 n9))), Option.none] [(Option.some (Go.Eng.HE.mk Bool.false (Go.Eng.HB.rows (Go.Sa.B.iKeySlot l1))))])
  | _, _ => none
noncomputable def IT_laws_heldKeySlotS_w_0 (N : Nat) : Its E := addIt 0 (i_laws_heldKeySlotS_w_0 N) (noIt)
theorem IT_laws_heldKeySlotS_w_0_ok (N : Nat) : ItOk (IT_laws_heldKeySlotS_w_0 N) 1 42 sl_laws_heldKeySlotS_w (lsB Go.Proofs.Try.f154 [0]) :=
  addItB_ok (inner := []) ok (O_laws_heldKeySlotS_w_ok N) (jn_ok _ _ _) (noIt_ok) rfl (by kernel_rfl) rfl fun vs H KL r h => by
    unfold i_laws_heldKeySlotS_w_0 at h
    split at h
    · exact ⟨_, (le_laws_heldKeySlotS_w_0 N _ _ KL N _ _).trans h⟩
    · cases h
def g_laws_heldKeySlotS_w (N : Nat) {R : Type} (b : Bool) (n : Int) (l : List Go.Sa.KeySlot) (k : Int → Option R) : Option R :=
  (c_laws_heldKeySlotS_w_0 N b l n (0 : Int) (fun n3 =>
  (k (-(1 : Int)))) (fun n4 =>
  (k n4)))
theorem e_laws_heldKeySlotS_w (N : Nat) {R : Type} (b : Bool) (n : Int) (l : List Go.Sa.KeySlot) (K : AV → Hp E → Option R) :
    runFnI (E := E) (O_laws_heldKeySlotS_w N) (IT_laws_heldKeySlotS_w_0 N) sl_laws_heldKeySlotS_w J_laws_heldKeySlotS_w Go.Proofs.Try.f154 [(Go.Eng.AV.sc (Go.Eng.SV.slc 0 Option.none b)), (Go.Eng.AV.sc (Go.Eng.SV.int Go.IntKind.i64 n))] [(Option.some (Go.Eng.HE.mk Bool.false (Go.Eng.HB.rows (Go.Sa.B.iKeySlot l))))] K =
      g_laws_heldKeySlotS_w N b n l (fun n5 => K (Go.Eng.AV.sc (Go.Eng.SV.int Go.IntKind.i64 n5)) [(Option.some (Go.Eng.HE.mk Bool.false (Go.Eng.HB.rows (Go.Sa.B.iKeySlot l))))]) := by kernel_rfl
def o_laws_heldKeySlotS_w (N : Nat) {R : Type} (args : List AV) (H : Hp E) (K : AV → Hp E → Option R) : Option R :=
  match args, H with
  | [(Go.Eng.AV.sc (Go.Eng.SV.slc 0 Option.none b)), (Go.Eng.AV.sc (Go.Eng.SV.int Go.IntKind.i64 n))], [(Option.some (Go.Eng.HE.mk Bool.false (Go.Eng.HB.rows (Go.Sa.B.iKeySlot l))))] => g_laws_heldKeySlotS_w N b n l (fun n5 => K (Go.Eng.AV.sc (Go.Eng.SV.int Go.IntKind.i64 n5)) [(Option.some (Go.Eng.HE.mk Bool.false (Go.Eng.HB.rows (Go.Sa.B.iKeySlot l))))])
  | _, _ => none
theorem o_laws_heldKeySlotS_w_ok (N : Nat) : FnOk E 154 (o_laws_heldKeySlotS_w N) := by
  intro R args H K r h
  unfold o_laws_heldKeySlotS_w at h
  dsimp only at h
  split at h
  · exact fnB_ok (ids := [0]) (top := [0]) ok (O_laws_heldKeySlotS_w_ok N) (jn_ok _ _ _) Go.Proofs.Try.func154 (by kernel_rfl) (IT := IT_laws_heldKeySlotS_w_0 N) (sl := sl_laws_heldKeySlotS_w) (J := J_laws_heldKeySlotS_w) (K := K) (H := [(Option.some (Go.Eng.HE.mk Bool.false (Go.Eng.HB.rows (Go.Sa.B.iKeySlot _))))]) (IT_laws_heldKeySlotS_w_0_ok N) (by kernel_rfl) rfl ((e_laws_heldKeySlotS_w N _ _ _ K).trans h)
  · cases h
/-! ### loop.example/g00038/laws.heldVolume -/
abbrev sl_laws_heldVolume_w : SlotT := []
abbrev J_laws_heldVolume_w : JT := jn [] [] []
noncomputable def O_laws_heldVolume_w (N : Nat) : Orc E := addFn 154 (o_laws_heldKeySlotS_w N) (noFn)
theorem O_laws_heldVolume_w_ok (N : Nat) : OrcOk (O_laws_heldVolume_w N) := addFn_ok (o_laws_heldKeySlotS_w_ok N) (noFn_ok)
def g_laws_heldVolume_w (N : Nat) {R : Type} (b : Bool) (s : ByteArray) (n : Int) (l : List Go.Sa.KeySlot) (k : Int → Option R) : Option R :=
  (g_laws_heldKeySlotS_w N b n l fun n1 =>
  (cond (decide ((n1 < (0 : Int))))
  (k (-(1 : Int)))
  (k n1)))
theorem e_laws_heldVolume_w (N : Nat) {R : Type} (b : Bool) (s : ByteArray) (n : Int) (l : List Go.Sa.KeySlot) (K : AV → Hp E → Option R) :
    runFnI (E := E) (O_laws_heldVolume_w N) (noIt) sl_laws_heldVolume_w J_laws_heldVolume_w Go.Proofs.Try.f123 [(Go.Eng.AV.agg [(Go.Eng.SV.slc 0 Option.none b), (Go.Eng.SV.str s)]), (Go.Eng.AV.sc (Go.Eng.SV.int Go.IntKind.i64 n))] [(Option.some (Go.Eng.HE.mk Bool.false (Go.Eng.HB.rows (Go.Sa.B.iKeySlot l))))] K =
      g_laws_heldVolume_w N b s n l (fun n2 => K (Go.Eng.AV.sc (Go.Eng.SV.int Go.IntKind.i64 n2)) [(Option.some (Go.Eng.HE.mk Bool.false (Go.Eng.HB.rows (Go.Sa.B.iKeySlot l))))]) := by kernel_rfl
def o_laws_heldVolume_w (N : Nat) {R : Type} (args : List AV) (H : Hp E) (K : AV → Hp E → Option R) : Option R :=
  match args, H with
  | [(Go.Eng.AV.agg [(Go.Eng.SV.slc 0 Option.none b), (Go.Eng.SV.str s)]), (Go.Eng.AV.sc (Go.Eng.SV.int Go.IntKind.i64 n))], [(Option.some (Go.Eng.HE.mk Bool.false (Go.Eng.HB.rows (Go.Sa.B.iKeySlot l))))] => g_laws_heldVolume_w N b s n l (fun n2 => K (Go.Eng.AV.sc (Go.Eng.SV.int Go.IntKind.i64 n2)) [(Option.some (Go.Eng.HE.mk Bool.false (Go.Eng.HB.rows (Go.Sa.B.iKeySlot l))))])
  | _, _ => none
theorem o_laws_heldVolume_w_ok (N : Nat) : FnOk E 123 (o_laws_heldVolume_w N) := by
  intro R args H K r h
  unfold o_laws_heldVolume_w at h
  dsimp only at h
  split at h
  · exact fnB_ok (ids := []) (top := []) ok (O_laws_heldVolume_w_ok N) (jn_ok _ _ _) Go.Proofs.Try.func123 (by kernel_rfl) (IT := noIt) (sl := sl_laws_heldVolume_w) (J := J_laws_heldVolume_w) (K := K) (H := [(Option.some (Go.Eng.HE.mk Bool.false (Go.Eng.HB.rows (Go.Sa.B.iKeySlot _))))]) (noIt_ok) (by kernel_rfl) rfl ((e_laws_heldVolume_w N _ _ _ _ K).trans h)
  · cases h
/-! ### loop.example/g00038/laws.heldVolumeRes -/
abbrev sl_laws_heldVolumeRes_w : SlotT := []
abbrev J_laws_heldVolumeRes_w : JT := jn [] [] []
noncomputable def O_laws_heldVolumeRes_w (N : Nat) : Orc E := addFn 123 (o_laws_heldVolume_w N) (noFn)
theorem O_laws_heldVolumeRes_w_ok (N : Nat) : OrcOk (O_laws_heldVolumeRes_w N) := addFn_ok (o_laws_heldVolume_w_ok N) (noFn_ok)
def g_laws_heldVolumeRes_w (N : Nat) {R : Type} (n : Int) (b : Bool) (s : ByteArray) (n1 : Int) (l : List Go.Sa.KeySlot) (k : Int → Option R) : Option R :=
  (g_laws_heldVolume_w N b s n1 l fun n2 =>
  (cond (decide ((n2 < (0 : Int))))
  (k (-(1 : Int)))
  (k n2)))
theorem e_laws_heldVolumeRes_w (N : Nat) {R : Type} (n : Int) (b : Bool) (s : ByteArray) (n1 : Int) (l : List Go.Sa.KeySlot) (K : AV → Hp E → Option R) :
    runFnI (E := E) (O_laws_heldVolumeRes_w N) (noIt) sl_laws_heldVolumeRes_w J_laws_heldVolumeRes_w Go.Proofs.Try.f65 [(Go.Eng.AV.agg [(Go.Eng.SV.int Go.IntKind.i64 n), (Go.Eng.SV.slc 0 Option.none b), (Go.Eng.SV.str s)]), (Go.Eng.AV.sc (Go.Eng.SV.int Go.IntKind.i64 n1))] [(Option.some (Go.Eng.HE.mk Bool.false (Go.Eng.HB.rows (Go.Sa.B.iKeySlot l))))] K =
      g_laws_heldVolumeRes_w N n b s n1 l (fun n3 => K (Go.Eng.AV.sc (Go.Eng.SV.int Go.IntKind.i64 n3)) [(Option.some (Go.Eng.HE.mk Bool.false (Go.Eng.HB.rows (Go.Sa.B.iKeySlot l))))]) := by kernel_rfl
def o_laws_heldVolumeRes_w (N : Nat) {R : Type} (args : List AV) (H : Hp E) (K : AV → Hp E → Option R) : Option R :=
  match args, H with
  | [(Go.Eng.AV.agg [(Go.Eng.SV.int Go.IntKind.i64 n), (Go.Eng.SV.slc 0 Option.none b), (Go.Eng.SV.str s)]), (Go.Eng.AV.sc (Go.Eng.SV.int Go.IntKind.i64 n1))], [(Option.some (Go.Eng.HE.mk Bool.false (Go.Eng.HB.rows (Go.Sa.B.iKeySlot l))))] => g_laws_heldVolumeRes_w N n b s n1 l (fun n3 => K (Go.Eng.AV.sc (Go.Eng.SV.int Go.IntKind.i64 n3)) [(Option.some (Go.Eng.HE.mk Bool.false (Go.Eng.HB.rows (Go.Sa.B.iKeySlot l))))])
  | _, _ => none
theorem o_laws_heldVolumeRes_w_ok (N : Nat) : FnOk E 65 (o_laws_heldVolumeRes_w N) := by
  intro R args H K r h
  unfold o_laws_heldVolumeRes_w at h
  dsimp only at h
  split at h
  · exact fnB_ok (ids := []) (top := []) ok (O_laws_heldVolumeRes_w_ok N) (jn_ok _ _ _) Go.Proofs.Try.func65 (by kernel_rfl) (IT := noIt) (sl := sl_laws_heldVolumeRes_w) (J := J_laws_heldVolumeRes_w) (K := K) (H := [(Option.some (Go.Eng.HE.mk Bool.false (Go.Eng.HB.rows (Go.Sa.B.iKeySlot _))))]) (noIt_ok) (by kernel_rfl) rfl ((e_laws_heldVolumeRes_w N _ _ _ _ _ K).trans h)
  · cases h
/-! ### loop.example/g00038/laws.eqKeySlotS -/
abbrev sl_laws_eqKeySlotS_rw : SlotT := [(0, ([0, 1, 5], [4]))]
abbrev J_laws_eqKeySlotS_rw : JT := jn [] [] []
noncomputable def O_laws_eqKeySlotS_rw (N : Nat) : Orc E := addFn 153 (o_laws_eqKeySlot N) (noFn)
theorem O_laws_eqKeySlotS_rw_ok (N : Nat) : OrcOk (O_laws_eqKeySlotS_rw N) := addFn_ok (o_laws_eqKeySlot_ok N) (noFn_ok)
def s_laws_eqKeySlotS_rw_0 (N : Nat) {R : Type} (b2 : Bool) (b3 : Bool) (l2 : List Go.Sa.KeySlot) (l3 : List Go.Sa.KeySlot) (n : Int) (ag : Int → Option R)  (kR : Option R) (kN : Option R) : Option R :=
  (cond (decide ((n < (((List.length l2) : Nat) : Int))))
  (cond ((decide (((0 : Int) ≤ n))) && (decide ((n < (((List.length l2) : Nat) : Int)))))
    (elemK l2 (Int.toNat n) fun x =>
      (cond ((decide (((0 : Int) ≤ n))) && (decide ((n < (((List.length l3) : Nat) : Int)))))
      (elemK l3 (Int.toNat n) fun x1 =>
        (g_laws_eqKeySlot N (Go.Sa.KeySlot.fSalt x) (Go.Sa.KeySlot.fKey x) (Go.Sa.KeySlot.fTag x) (Go.Sa.KeySlot.fSalt x1) (Go.Sa.KeySlot.fKey x1) (Go.Sa.KeySlot.fTag x1) fun b4 =>
        (cond (!b4)
        kR
        (ag (Go.IntKind.wrap Go.IntKind.i64 (n + (1 : Int)))))))
      none))
    none)
  kN)
def l_laws_eqKeySlotS_rw_0 (N : Nat) {R : Type} (b2 : Bool) (b3 : Bool) (l2 : List Go.Sa.KeySlot) (l3 : List Go.Sa.KeySlot) (kR : Option R) (kN : Option R) : Nat → Int → Option R
  | 0, _ => none
  | f + 1, n => s_laws_eqKeySlotS_rw_0 N b2 b3 l2 l3 n (fun n => l_laws_eqKeySlotS_rw_0 N b2 b3 l2 l3 kR kN f n)  kR kN
def c_laws_eqKeySlotS_rw_0 (N : Nat) {R : Type} (b2 : Bool) (b3 : Bool) (l2 : List Go.Sa.KeySlot) (l3 : List Go.Sa.KeySlot) (n : Int) (kR : Option R) (kN : Option R) : Option R := l_laws_eqKeySlotS_rw_0 N b2 b3 l2 l3 kR kN N n
theorem se_laws_eqKeySlotS_rw_0 (N : Nat) {R : Type} (b2 : Bool) (b3 : Bool) (l2 : List Go.Sa.KeySlot) (l3 : List Go.Sa.KeySlot) (n : Int) (AG : List (Option AV) → Hp E → Option R) (KL : Ex → List (Option AV) → Hp E → Option R) :
    iterStep (E := E) (O_laws_eqKeySlotS_rw N) (fun {R} => LI (noIt) 2 27 sl_laws_eqKeySlotS_rw (R := R)) J_laws_eqKeySlotS_rw 2 27 0 [0, 1, 5] [4] (body Go.Proofs.Try.f121 0) AG KL [(Option.some (Go.Eng.AV.sc (Go.Eng.SV.slc 0 Option.none b2))), (Option.some (Go.Eng.AV.sc (Go.Eng.SV.slc 1 Option.none b3))), (Option.some (Go.Eng.AV.sc (Go.Eng.SV.int Go.IntKind.i64 n)))] [(Option.some (Go.Eng.HE.mk Bool.true (Go.Eng.HB.rows (Go.Sa.B.iKeySlot l2)))), (Option.some (Go.Eng.HE.mk Bool.false (Go.Eng.HB.rows (Go.Sa.B.iKeySlot l3))))] =
      s_laws_eqKeySlotS_rw_0 N b2 b3 l2 l3 n (fun n => AG [(Option.some (Go.Eng.AV.sc (Go.Eng.SV.slc 0 Option.none b2))), (Option.some (Go.Eng.AV.sc (Go.Eng.SV.slc 1 Option.none b3))), (Option.some (Go.Eng.AV.sc (Go.Eng.SV.int Go.IntKind.i64 n)))] [(Option.some (Go.Eng.HE.mk Bool.true (Go.Eng.HB.rows (Go.Sa.B.iKeySlot l2)))), (Option.some (Go.Eng.HE.mk Bool.false (Go.Eng.HB.rows (Go.Sa.B.iKeySlot l3))))])  (KL Go.Eng.Ex.ret [(Option.some (Go.Eng.AV.sc (Go.Eng.SV.bool Bool.false)))] [(Option.some (Go.Eng.HE.mk Bool.true (Go.Eng.HB.rows (Go.Sa.B.iKeySlot l2)))), (Option.some (Go.Eng.HE.mk Bool.false (Go.Eng.HB.rows (Go.Sa.B.iKeySlot l3))))]) (KL Go.Eng.Ex.normal [Option.none] [(Option.some (Go.Eng.HE.mk Bool.true (Go.Eng.HB.rows (Go.Sa.B.iKeySlot l2)))), (Option.some (Go.Eng.HE.mk Bool.false (Go.Eng.HB.rows (Go.Sa.B.iKeySlot l3))))]) := by kernel_rfl
theorem le_laws_eqKeySlotS_rw_0 (N : Nat) {R : Type} (b2 : Bool) (b3 : Bool) (l2 : List Go.Sa.KeySlot) (l3 : List Go.Sa.KeySlot) (KL : Ex → List (Option AV) → Hp E → Option R) : ∀ (f : Nat), ∀ (n : Int), iterK (E := E) (O_laws_eqKeySlotS_rw N) (fun {R} => LI (noIt) 2 27 sl_laws_eqKeySlotS_rw (R := R)) J_laws_eqKeySlotS_rw 2 27 0 [0, 1, 5] [4] (body Go.Proofs.Try.f121 0) f [(Option.some (Go.Eng.AV.sc (Go.Eng.SV.slc 0 Option.none b2))), (Option.some (Go.Eng.AV.sc (Go.Eng.SV.slc 1 Option.none b3))), (Option.some (Go.Eng.AV.sc (Go.Eng.SV.int Go.IntKind.i64 n)))] [(Option.some (Go.Eng.HE.mk Bool.true (Go.Eng.HB.rows (Go.Sa.B.iKeySlot l2)))), (Option.some (Go.Eng.HE.mk Bool.false (Go.Eng.HB.rows (Go.Sa.B.iKeySlot l3))))] KL = l_laws_eqKeySlotS_rw_0 N b2 b3 l2 l3 (KL Go.Eng.Ex.ret [(Option.some (Go.Eng.AV.sc (Go.Eng.SV.bool Bool.false)))] [(Option.some (Go.Eng.HE.mk Bool.true (Go.Eng.HB.rows (Go.Sa.B.iKeySlot l2)))), (Option.some (Go.Eng.HE.mk Bool.false (Go.Eng.HB.rows (Go.Sa.B.iKeySlot l3))))]) (KL Go.Eng.Ex.normal [Option.none] [(Option.some (Go.Eng.HE.mk Bool.true (Go.Eng.HB.rows (Go.Sa.B.iKeySlot l2)))), (Option.some (Go.Eng.HE.mk Bool.false (Go.Eng.HB.rows (Go.Sa.B.iKeySlot l3))))]) f n := by
  intro f
  induction f with
  | zero => intros; rfl
  | succ f ih =>
    intro n
    rw [iterK_succ, se_laws_eqKeySlotS_rw_0]
    exact (congrArg (fun z0 => s_laws_eqKeySlotS_rw_0 N b2 b3 l2 l3 n z0 (KL Go.Eng.Ex.ret [(Option.some (Go.Eng.AV.sc (Go.Eng.SV.bool Bool.false)))] [(Option.some (Go.Eng.HE.mk Bool.true (Go.Eng.HB.rows (Go.Sa.B.iKeySlot l2)))), (Option.some (Go.Eng.HE.mk Bool.false (Go.Eng.HB.rows (Go.Sa.B.iKeySlot l3))))]) (KL Go.Eng.Ex.normal [Option.none] [(Option.some (Go.Eng.HE.mk Bool.true (Go.Eng.HB.rows (Go.Sa.B.iKeySlot l2)))), (Option.some (Go.Eng.HE.mk Bool.false (Go.Eng.HB.rows (Go.Sa.B.iKeySlot l3))))])) (funext fun n => ih n))
def i_laws_eqKeySlotS_rw_0 (N : Nat) {R : Type} (vs : List (Option AV)) (H : Hp E) (KL : Ex → List (Option AV) → Hp E → Option R) : Option R :=
  match vs, H with
  | [(Option.some (Go.Eng.AV.sc (Go.Eng.SV.slc 0 Option.none b2))), (Option.some (Go.Eng.AV.sc (Go.Eng.SV.slc 1 Option.none b3))), (Option.some (Go.Eng.AV.sc (Go.Eng.SV.int Go.IntKind.i64 n)))], [(Option.some (Go.Eng.HE.mk Bool.true (Go.Eng.HB.rows (Go.Sa.B.iKeySlot l2)))), (Option.some (Go.Eng.HE.mk Bool.false (Go.Eng.HB.rows (Go.Sa.B.iKeySlot l3))))] => c_laws_eqKeySlotS_rw_0 N b2 b3 l2 l3 n (KL Go.Eng.Ex.ret [(Option.some (Go.Eng.AV.sc (Go.Eng.SV.bool Bool.false)))] [(Option.some (Go.Eng.HE.mk Bool.true (Go.Eng.HB.rows (Go.Sa.B.iKeySlot l2)))), (Option.some (Go.Eng.HE.mk Bool.false (Go.Eng.HB.rows (Go.Sa.B.iKeySlot l3))))]) (KL Go.Eng.Ex.normal [Option.none] [(Option.some (Go.Eng.HE.mk Bool.true (Go.Eng.HB.rows (Go.Sa.B.iKeySlot l2)))), (Option.some (Go.Eng.HE.mk Bool.false (Go.Eng.HB.rows (Go.Sa.B.iKeySlot l3))))])
  | _, _ => none
noncomputable def IT_laws_eqKeySlotS_rw_0 (N : Nat) : Its E := addIt 0 (i_laws_eqKeySlotS_rw_0 N) (noIt)
theorem IT_laws_eqKeySlotS_rw_0_ok (N : Nat) : ItOk (IT_laws_eqKeySlotS_rw_0 N) 2 27 sl_laws_eqKeySlotS_rw (lsB Go.Proofs.Try.f121 [0]) :=
  addItB_ok (inner := []) ok (O_laws_eqKeySlotS_rw_ok N) (jn_ok _ _ _) (noIt_ok) rfl (by kernel_rfl) rfl fun vs H KL r h => by
    unfold i_laws_eqKeySlotS_rw_0 at h
    split at h
    · exact ⟨_, (le_laws_eqKeySlotS_rw_0 N _ _ _ _ KL N _).trans h⟩
    · cases h
def g_laws_eqKeySlotS_rw (N : Nat) {R : Type} (b : Bool) (b1 : Bool) (l : List Go.Sa.KeySlot) (l1 : List Go.Sa.KeySlot) (k : Bool → Option R) : Option R :=
  (cond ((((List.length l) : Nat) : Int) != (((List.length l1) : Nat) : Int))
  (k Bool.false)
  (c_laws_eqKeySlotS_rw_0 N b b1 l l1 (0 : Int) (
    (k Bool.false)) (
    (k Bool.true))))
theorem e_laws_eqKeySlotS_rw (N : Nat) {R : Type} (b : Bool) (b1 : Bool) (l : List Go.Sa.KeySlot) (l1 : List Go.Sa.KeySlot) (K : AV → Hp E → Option R) :
    runFnI (E := E) (O_laws_eqKeySlotS_rw N) (IT_laws_eqKeySlotS_rw_0 N) sl_laws_eqKeySlotS_rw J_laws_eqKeySlotS_rw Go.Proofs.Try.f121 [(Go.Eng.AV.sc (Go.Eng.SV.slc 0 Option.none b)), (Go.Eng.AV.sc (Go.Eng.SV.slc 1 Option.none b1))] [(Option.some (Go.Eng.HE.mk Bool.true (Go.Eng.HB.rows (Go.Sa.B.iKeySlot l)))), (Option.some (Go.Eng.HE.mk Bool.false (Go.Eng.HB.rows (Go.Sa.B.iKeySlot l1))))] K =
      g_laws_eqKeySlotS_rw N b b1 l l1 (fun b5 => K (Go.Eng.AV.sc (Go.Eng.SV.bool b5)) [(Option.some (Go.Eng.HE.mk Bool.true (Go.Eng.HB.rows (Go.Sa.B.iKeySlot l)))), (Option.some (Go.Eng.HE.mk Bool.false (Go.Eng.HB.rows (Go.Sa.B.iKeySlot l1))))]) := by kernel_rfl
def o_laws_eqKeySlotS_rw (N : Nat) {R : Type} (args : List AV) (H : Hp E) (K : AV → Hp E → Option R) : Option R :=
  match args, H with
  | [(Go.Eng.AV.sc (Go.Eng.SV.slc 0 Option.none b)), (Go.Eng.AV.sc (Go.Eng.SV.slc 1 Option.none b1))], [(Option.some (Go.Eng.HE.mk Bool.true (Go.Eng.HB.rows (Go.Sa.B.iKeySlot l)))), (Option.some (Go.Eng.HE.mk Bool.false (Go.Eng.HB.rows (Go.Sa.B.iKeySlot l1))))] => g_laws_eqKeySlotS_rw N b b1 l l1 (fun b5 => K (Go.Eng.AV.sc (Go.Eng.SV.bool b5)) [(Option.some (Go.Eng.HE.mk Bool.true (Go.Eng.HB.rows (Go.Sa.B.iKeySlot l)))), (Option.some (Go.Eng.HE.mk Bool.false (Go.Eng.HB.rows (Go.Sa.B.iKeySlot l1))))])
  | _, _ => none
theorem o_laws_eqKeySlotS_rw_ok (N : Nat) : FnOk E 121 (o_laws_eqKeySlotS_rw N) := by
  intro R args H K r h
  unfold o_laws_eqKeySlotS_rw at h
  dsimp only at h
  split at h
  · exact fnB_ok (ids := [0]) (top := [0]) ok (O_laws_eqKeySlotS_rw_ok N) (jn_ok _ _ _) Go.Proofs.Try.func121 (by kernel_rfl) (IT := IT_laws_eqKeySlotS_rw_0 N) (sl := sl_laws_eqKeySlotS_rw) (J := J_laws_eqKeySlotS_rw) (K := K) (H := [(Option.some (Go.Eng.HE.mk Bool.true (Go.Eng.HB.rows (Go.Sa.B.iKeySlot _)))), (Option.some (Go.Eng.HE.mk Bool.false (Go.Eng.HB.rows (Go.Sa.B.iKeySlot _))))]) (IT_laws_eqKeySlotS_rw_0_ok N) (by kernel_rfl) rfl ((e_laws_eqKeySlotS_rw N _ _ _ _ K).trans h)
  · cases h
/-! ### loop.example/g00038/laws.eqVolume -/
abbrev sl_laws_eqVolume_rw : SlotT := []
abbrev J_laws_eqVolume_rw : JT := jn [] [] []
noncomputable def O_laws_eqVolume_rw (N : Nat) : Orc E := addFn 121 (o_laws_eqKeySlotS_rw N) (noFn)
theorem O_laws_eqVolume_rw_ok (N : Nat) : OrcOk (O_laws_eqVolume_rw N) := addFn_ok (o_laws_eqKeySlotS_rw_ok N) (noFn_ok)
def g_laws_eqVolume_rw (N : Nat) {R : Type} (b : Bool) (s : ByteArray) (b1 : Bool) (s1 : ByteArray) (l : List Go.Sa.KeySlot) (l1 : List Go.Sa.KeySlot) (k : Bool → Option R) : Option R :=
  (g_laws_eqKeySlotS_rw N b b1 l l1 fun b2 =>
  (cond (!b2)
  (k Bool.false)
  (cond (!(decide ((s = s1))))
    (k Bool.false)
    (k Bool.true))))
theorem e_laws_eqVolume_rw (N : Nat) {R : Type} (b : Bool) (s : ByteArray) (b1 : Bool) (s1 : ByteArray) (l : List Go.Sa.KeySlot) (l1 : List Go.Sa.KeySlot) (K : AV → Hp E → Option R) :
    runFnI (E := E) (O_laws_eqVolume_rw N) (noIt) sl_laws_eqVolume_rw J_laws_eqVolume_rw Go.Proofs.Try.f62 [(Go.Eng.AV.agg [(Go.Eng.SV.slc 0 Option.none b), (Go.Eng.SV.str s)]), (Go.Eng.AV.agg [(Go.Eng.SV.slc 1 Option.none b1), (Go.Eng.SV.str s1)])] [(Option.some (Go.Eng.HE.mk Bool.true (Go.Eng.HB.rows (Go.Sa.B.iKeySlot l)))), (Option.some (Go.Eng.HE.mk Bool.false (Go.Eng.HB.rows (Go.Sa.B.iKeySlot l1))))] K =
      g_laws_eqVolume_rw N b s b1 s1 l l1 (fun b3 => K (Go.Eng.AV.sc (Go.Eng.SV.bool b3)) [(Option.some (Go.Eng.HE.mk Bool.true (Go.Eng.HB.rows (Go.Sa.B.iKeySlot l)))), (Option.some (Go.Eng.HE.mk Bool.false (Go.Eng.HB.rows (Go.Sa.B.iKeySlot l1))))]) := by kernel_rfl
def o_laws_eqVolume_rw (N : Nat) {R : Type} (args : List AV) (H : Hp E) (K : AV → Hp E → Option R) : Option R :=
  match args, H with
  | [(Go.Eng.AV.agg [(Go.Eng.SV.slc 0 Option.none b), (Go.Eng.SV.str s)]), (Go.Eng.AV.agg [(Go.Eng.SV.slc 1 Option.none b1), (Go.Eng.SV.str s1)])], [(Option.some (Go.Eng.HE.mk Bool.true (Go.Eng.HB.rows (Go.Sa.B.iKeySlot l)))), (Option.some (Go.Eng.HE.mk Bool.false (Go.Eng.HB.rows (Go.Sa.B.iKeySlot l1))))] => g_laws_eqVolume_rw N b s b1 s1 l l1 (fun b3 => K (Go.Eng.AV.sc (Go.Eng.SV.bool b3)) [(Option.some (Go.Eng.HE.mk Bool.true (Go.Eng.HB.rows (Go.Sa.B.iKeySlot l)))), (Option.some (Go.Eng.HE.mk Bool.false (Go.Eng.HB.rows (Go.Sa.B.iKeySlot l1))))])
  | _, _ => none
theorem o_laws_eqVolume_rw_ok (N : Nat) : FnOk E 62 (o_laws_eqVolume_rw N) := by
  intro R args H K r h
  unfold o_laws_eqVolume_rw at h
  dsimp only at h
  split at h
  · exact fnB_ok (ids := []) (top := []) ok (O_laws_eqVolume_rw_ok N) (jn_ok _ _ _) Go.Proofs.Try.func62 (by kernel_rfl) (IT := noIt) (sl := sl_laws_eqVolume_rw) (J := J_laws_eqVolume_rw) (K := K) (H := [(Option.some (Go.Eng.HE.mk Bool.true (Go.Eng.HB.rows (Go.Sa.B.iKeySlot _)))), (Option.some (Go.Eng.HE.mk Bool.false (Go.Eng.HB.rows (Go.Sa.B.iKeySlot _))))]) (noIt_ok) (by kernel_rfl) rfl ((e_laws_eqVolume_rw N _ _ _ _ _ _ K).trans h)
  · cases h
/-! ### loop.example/g00038/laws.eqVolumeRes -/
abbrev sl_laws_eqVolumeRes_rw : SlotT := []
abbrev J_laws_eqVolumeRes_rw : JT := jn [] [] []
noncomputable def O_laws_eqVolumeRes_rw (N : Nat) : Orc E := addFn 62 (o_laws_eqVolume_rw N) (noFn)
theorem O_laws_eqVolumeRes_rw_ok (N : Nat) : OrcOk (O_laws_eqVolumeRes_rw N) := addFn_ok (o_laws_eqVolume_rw_ok N) (noFn_ok)
def g_laws_eqVolumeRes_rw (N : Nat) {R : Type} (n : Int) (b : Bool) (s : ByteArray) (n1 : Int) (b1 : Bool) (s1 : ByteArray) (l : List Go.Sa.KeySlot) (l1 : List Go.Sa.KeySlot) (k : Bool → Option R) : Option R :=
  (cond (n != n1)
  (k Bool.false)
  (g_laws_eqVolume_rw N b s b1 s1 l l1 fun b2 =>
    (cond (!b2)
    (k Bool.false)
    (k Bool.true))))
theorem e_laws_eqVolumeRes_rw (N : Nat) {R : Type} (n : Int) (b : Bool) (s : ByteArray) (n1 : Int) (b1 : Bool) (s1 : ByteArray) (l : List Go.Sa.KeySlot) (l1 : List Go.Sa.KeySlot) (K : AV → Hp E → Option R) :
    runFnI (E := E) (O_laws_eqVolumeRes_rw N) (noIt) sl_laws_eqVolumeRes_rw J_laws_eqVolumeRes_rw Go.Proofs.Try.f61 [(Go.Eng.AV.agg [(Go.Eng.SV.int Go.IntKind.i64 n), (Go.Eng.SV.slc 0 Option.none b), (Go.Eng.SV.str s)]), (Go.Eng.AV.agg [(Go.Eng.SV.int Go.IntKind.i64 n1), (Go.Eng.SV.slc 1 Option.none b1), (Go.Eng.SV.str s1)])] [(Option.some (Go.Eng.HE.mk Bool.true (Go.Eng.HB.rows (Go.Sa.B.iKeySlot l)))), (Option.some (Go.Eng.HE.mk Bool.false (Go.Eng.HB.rows (Go.Sa.B.iKeySlot l1))))] K =
      g_laws_eqVolumeRes_rw N n b s n1 b1 s1 l l1 (fun b3 => K (Go.Eng.AV.sc (Go.Eng.SV.bool b3)) [(Option.some (Go.Eng.HE.mk Bool.true (Go.Eng.HB.rows (Go.Sa.B.iKeySlot l)))), (Option.some (Go.Eng.HE.mk Bool.false (Go.Eng.HB.rows (Go.Sa.B.iKeySlot l1))))]) := by kernel_rfl
def o_laws_eqVolumeRes_rw (N : Nat) {R : Type} (args : List AV) (H : Hp E) (K : AV → Hp E → Option R) : Option R :=
  match args, H with
  | [(Go.Eng.AV.agg [(Go.Eng.SV.int Go.IntKind.i64 n), (Go.Eng.SV.slc 0 Option.none b), (Go.Eng.SV.str s)]), (Go.Eng.AV.agg [(Go.Eng.SV.int Go.IntKind.i64 n1), (Go.Eng.SV.slc 1 Option.none b1), (Go.Eng.SV.str s1)])], [(Option.some (Go.Eng.HE.mk Bool.true (Go.Eng.HB.rows (Go.Sa.B.iKeySlot l)))), (Option.some (Go.Eng.HE.mk Bool.false (Go.Eng.HB.rows (Go.Sa.B.iKeySlot l1))))] => g_laws_eqVolumeRes_rw N n b s n1 b1 s1 l l1 (fun b3 => K (Go.Eng.AV.sc (Go.Eng.SV.bool b3)) [(Option.some (Go.Eng.HE.mk Bool.true (Go.Eng.HB.rows (Go.Sa.B.iKeySlot l)))), (Option.some (Go.Eng.HE.mk Bool.false (Go.Eng.HB.rows (Go.Sa.B.iKeySlot l1))))])
  | _, _ => none
theorem o_laws_eqVolumeRes_rw_ok (N : Nat) : FnOk E 61 (o_laws_eqVolumeRes_rw N) := by
  intro R args H K r h
  unfold o_laws_eqVolumeRes_rw at h
  dsimp only at h
  split at h
  · exact fnB_ok (ids := []) (top := []) ok (O_laws_eqVolumeRes_rw_ok N) (jn_ok _ _ _) Go.Proofs.Try.func61 (by kernel_rfl) (IT := noIt) (sl := sl_laws_eqVolumeRes_rw) (J := J_laws_eqVolumeRes_rw) (K := K) (H := [(Option.some (Go.Eng.HE.mk Bool.true (Go.Eng.HB.rows (Go.Sa.B.iKeySlot _)))), (Option.some (Go.Eng.HE.mk Bool.false (Go.Eng.HB.rows (Go.Sa.B.iKeySlot _))))]) (noIt_ok) (by kernel_rfl) rfl ((e_laws_eqVolumeRes_rw N _ _ _ _ _ _ _ _ K).trans h)
  · cases h
/-! ### loop.example/g00038/laws.markKeySlotS -/
abbrev sl_laws_markKeySlotS_w_v1 : SlotT := [(0, ([0, 1, 5], [1]))]
abbrev J_laws_markKeySlotS_w_v1 : JT := jn [] [] []
noncomputable def O_laws_markKeySlotS_w_v1 (N : Nat) : Orc E := addFn 100 (o_laws_markText N) (noFn)
theorem O_laws_markKeySlotS_w_v1_ok (N : Nat) : OrcOk (O_laws_markKeySlotS_w_v1 N) := addFn_ok (o_laws_markText_ok N) (noFn_ok)
def s_laws_markKeySlotS_w_v1_0 (N : Nat) {R : Type} (m3 : Nat) (m4 : Nat) (m5 : Nat) (b1 : Bool) (n1 : Int) (n2 : Int) (l1 : List Go.Sa.KeySlot) (ag : Int → Int → (List Go.Sa.KeySlot) → Option R)  (kN : Int → (List Go.Sa.KeySlot) → Option R) : Option R :=
  (cond (decide ((n2 < ((m4 : Nat) : Int))))
  (cond ((decide (((0 : Int) ≤ n2))) && (decide ((n2 < ((m4 : Nat) : Int)))))
    (elemK l1 ((Int.toNat n2) + m3) fun x =>
      (cond (Nat.blt ((Int.toNat n2) + m3) (List.length l1))
      (g_laws_markText N (Go.IntKind.wrap Go.IntKind.i64 (n1 + (1 : Int))) fun s =>
        (cond ((decide (((0 : Int) ≤ n2))) && (decide ((n2 < ((m4 : Nat) : Int)))))
        (elemK (Go.Eng.nset l1 ((Int.toNat n2) + m3) (Go.Sa.KeySlot.mk n1 (Go.Sa.KeySlot.fKey x) (Go.Sa.KeySlot.fTag x))) ((Int.toNat n2) + m3) fun x1 =>
          (cond (Nat.blt ((Int.toNat n2) + m3) (List.length (Go.Eng.nset l1 ((Int.toNat n2) + m3) (Go.Sa.KeySlot.mk n1 (Go.Sa.KeySlot.fKey x) (Go.Sa.KeySlot.fTag x)))))
          (g_laws_markText N (Go.IntKind.wrap Go.IntKind.i64 ((Go.IntKind.wrap Go.IntKind.i64 (n1 + (1 : Int))) + (1 : Int))) fun s1 =>
            (cond ((decide (((0 : Int) ≤ n2))) && (decide ((n2 < ((m4 : Nat) : Int)))))
            (elemK (Go.Eng.nset (Go.Eng.nset l1 ((Int.toNat n2) + m3) (Go.Sa.KeySlot.mk n1 (Go.Sa.KeySlot.fKey x) (Go.Sa.KeySlot.fTag x))) ((Int.toNat n2) + m3) (Go.Sa.KeySlot.mk (Go.Sa.KeySlot.fSalt x1) s (Go.Sa.KeySlot.fTag x1))) ((Int.toNat n2) + m3) fun x2 =>
              (cond (Nat.blt ((Int.toNat n2) + m3) (List.length (Go.Eng.nset (Go.Eng.nset l1 ((Int.toNat n2) + m3) (Go.Sa.KeySlot.mk n1 (Go.Sa.KeySlot.fKey x) (Go.Sa.KeySlot.fTag x))) ((Int.toNat n2) + m3) (Go.Sa.KeySlot.mk (Go.Sa.KeySlot.fSalt x1) s (Go.Sa.KeySlot.fTag x1)))))
              (ag (Go.IntKind.wrap Go.IntKind.i64 ((Go.IntKind.wrap Go.IntKind.i64 ((Go.IntKind.wrap Go.IntKind.i64 (n1 + (1 : Int))) + (1 : Int))) + (1 : Int))) (Go.IntKind.wrap Go.IntKind.i64 (n2 + (1 : Int))) (Go.Eng.nset (Go.Eng.nset (Go.Eng.nset l1 ((Int.toNat n2) + m3) (Go.Sa.KeySlot.mk n1 (Go.Sa.KeySlot.fKey x) (Go.Sa.KeySlot.fTag x))) ((Int.toNat n2) + m3) (Go.Sa.KeySlot.mk (Go.Sa.KeySlot.fSalt x1) s (Go.Sa.KeySlot.fTag x1))) ((Int.toNat n2) + m3) (Go.Sa.KeySlot.mk (Go.Sa.KeySlot.fSalt x2) (Go.Sa.KeySlot.fKey x2) s1)))
              none))
            none))
          none))
        none))
      none))
    none)
  (kN n1 l1))
def l_laws_markKeySlotS_w_v1_0 (N : Nat) {R : Type} (m3 : Nat) (m4 : Nat) (m5 : Nat) (b1 : Bool) (kN : Int → (List Go.Sa.KeySlot) → Option R) : Nat → Int → Int → (List Go.Sa.KeySlot) → Option R
  | 0, _, _, _ => none
  | f + 1, n1, n2, l1 => s_laws_markKeySlotS_w_v1_0 N m3 m4 m5 b1 n1 n2 l1 (fun n1 n2 l1 => l_laws_markKeySlotS_w_v1_0 N m3 m4 m5 b1 kN f n1 n2 l1)  kN
def c_laws_markKeySlotS_w_v1_0 (N : Nat) {R : Type} (m3 : Nat) (m4 : Nat) (m5 : Nat) (b1 : Bool) (n1 : Int) (n2 : Int) (l1 : List Go.Sa.KeySlot) (kN : Int → (List Go.Sa.KeySlot) → Option R) : Option R := l_laws_markKeySlotS_w_v1_0 N m3 m4 m5 b1 kN N n1 n2 l1
theorem se_laws_markKeySlotS_w_v1_0 (N : Nat) {R : Type} (m3 : Nat) (m4 : Nat) (m5 : Nat) (b1 : Bool) (n1 : Int) (n2 : Int) (l1 : List Go.Sa.KeySlot) (AG : List (Option AV) → Hp E → Option R) (KL : Ex → List (Option AV) → Hp E → Option R) :
    iterStep (E := E) (O_laws_markKeySlotS_w_v1 N) (fun {R} => LI (noIt) 1 36 sl_laws_markKeySlotS_w_v1 (R := R)) J_laws_markKeySlotS_w_v1 1 36 0 [0, 1, 5] [1] (body Go.Proofs.Try.f122 0) AG KL [(Option.some (Go.Eng.AV.sc (Go.Eng.SV.slc 0 (Option.some (m3, (m4, m5))) b1))), (Option.some (Go.Eng.AV.sc (Go.Eng.SV.int Go.IntKind.i64 n1))), (Option.some (Go.Eng.AV.sc (Go.Eng.SV.int Go.IntKind.i64 n2)))] [(Option.some (Go.Eng.HE.mk Bool.false (Go.Eng.HB.rows (Go.Sa.B.iKeySlot l1))))] =
      s_laws_markKeySlotS_w_v1_0 N m3 m4 m5 b1 n1 n2 l1 (fun n1 n2 l1 => AG [(Option.some (Go.Eng.AV.sc (Go.Eng.SV.slc 0 (Option.some (m3, (m4, m5))) b1))), (Option.some (Go.Eng.AV.sc (Go.Eng.SV.int Go.IntKind.i64 n1))), (Option.some (Go.Eng.AV.sc (Go.Eng.SV.int Go.IntKind.i64 n2)))] [(Option.some (Go.Eng.HE.mk Bool.false (Go.Eng.HB.rows (Go.Sa.B.iKeySlot l1))))])  (fun n5 l4 => KL Go.Eng.Ex.normal [(Option.some (Go.Eng.AV.sc (Go.Eng.SV.int Go.IntKind.i64 n5)))] [(Option.some (Go.Eng.HE.mk Bool.false (Go.Eng.HB.rows (Go.Sa.B.iKeySlot l4))))]) := by kernel_rfl
theorem le_laws_markKeySlotS_w_v1_0 (N : Nat) {R : Type} (m3 : Nat) (m4 : Nat) (m5 : Nat) (b1 : Bool) (KL : Ex → List (Option AV) → Hp E → Option R) : ∀ (f : Nat), ∀ (n1 : Int) (n2 : Int) (l1 : List Go.Sa.KeySlot), iterK (E := E) (O_laws_markKeySlotS_w_v1 N) (fun {R} => LI (noIt) 1 36 sl_laws_markKeySlotS_w_v1 (R := R)) J_laws_markKeySlotS_w_v1 1 36 0 [0, 1, 5] [1] (body Go.Proofs.Try.f122 0) f [(Option.some (Go.Eng.AV.sc (Go.Eng.SV.slc 0 (Option.some (m3, (m4, m5))) b1))), (Option.some (Go.Eng.AV.sc (Go.Eng.SV.int Go.IntKind.i64 n1))), (Option.some (Go.Eng.AV.sc (Go.Eng.SV.int Go.IntKind.i64 n2)))] [(Option.some (Go.Eng.HE.mk Bool.false (Go.Eng.HB.rows (Go.Sa.B.iKeySlot l1))))] KL = l_laws_markKeySlotS_w_v1_0 N m3 m4 m5 b1 (fun n5 l4 => KL Go.Eng.Ex.normal [(Option.some (Go.Eng.AV.sc (Go.Eng.SV.int Go.IntKind.i64 n5)))] [(Option.some (Go.Eng.HE.mk Bool.false (Go.Eng.HB.rows (Go.Sa.B.iKeySlot l4))))]) f n1 n2 l1 := by
  intro f
  induction f with
  | zero => intros; rfl
  | succ f ih =>
    intro n1 n2 l1
    rw [iterK_succ, se_laws_markKeySlotS_w_v1_0]
    exact (congrArg (fun z0 => s_laws_markKeySlotS_w_v1_0 N m3 m4 m5 b1 n1 n2 l1 z0 (fun n5 l4 => KL Go.Eng.Ex.normal [(Option.some (Go.Eng.AV.sc (Go.Eng.SV.int Go.IntKind.i64 n5)))] [(Option.some (Go.Eng.HE.mk Bool.false (Go.Eng.HB.rows (Go.Sa.B.iKeySlot l4))))])) (funext fun n1 => funext fun n2 => funext fun l1 => ih n1 n2 l1))
def i_laws_markKeySlotS_w_v1_0 (N : Nat) {R : Type} (vs : List (Option AV)) (H : Hp E) (KL : Ex → List (Option AV) → Hp E → Option R) : Option R :=
  match vs, H with
  | [(Option.some (Go.Eng.AV.sc (Go.Eng.SV.slc 0 (Option.some (m3, (m4, m5))) b1))), (Option.some (Go.Eng.AV.sc (Go.Eng.SV.int Go.IntKind.i64 n1))), (Option.some (Go.Eng.AV.sc (Go.Eng.SV.int Go.IntKind.i64 n2)))], [(Option.some (Go.Eng.HE.mk Bool.false (Go.Eng.HB.rows (Go.Sa.B.iKeySlot l1))))] => c_laws_markKeySlotS_w_v1_0 N m3 m4 m5 b1 n1 n2 l1 (fun n6 l5 => KL Go.Eng.Ex.normal [(Option.some (Go.Eng.AV.sc (Go.Eng.SV.int Go.IntKind.i64 n6)))] [(Option.some (Go.Eng.HE.mk Bool.false (Go.Eng.HB.rows (Go.Sa.B.iKeySlot l5))))])
  | _, _ => none
noncomputable def IT_laws_markKeySlotS_w_v1_0 (N : Nat) : Its E := addIt 0 (i_laws_markKeySlotS_w_v1_0 N) (noIt)
theorem IT_laws_markKeySlotS_w_v1_0_ok (N : Nat) : ItOk (IT_laws_markKeySlotS_w_v1_0 N) 1 36 sl_laws_markKeySlotS_w_v1 (lsB Go.Proofs.Try.f122 [0]) :=
  addItB_ok (inner := []) ok (O_laws_markKeySlotS_w_v1_ok N) (jn_ok _ _ _) (noIt_ok) rfl (by kernel_rfl) rfl fun vs H KL r h => by
    unfold i_laws_markKeySlotS_w_v1_0 at h
    split at h
    · exact ⟨_, (le_laws_markKeySlotS_w_v1_0 N _ _ _ _ KL N _ _ _).trans h⟩
    · cases h
def g_laws_markKeySlotS_w_v1 (N : Nat) {R : Type} (m : Nat) (m1 : Nat) (m2 : Nat) (b : Bool) (n : Int) (l : List Go.Sa.KeySlot) (k : Int → (List Go.Sa.KeySlot) → Option R) : Option R :=
  (c_laws_markKeySlotS_w_v1_0 N m m1 m2 b n (0 : Int) l fun n3 l2 =>
  (k n3 l2))
theorem e_laws_markKeySlotS_w_v1 (N : Nat) {R : Type} (m : Nat) (m1 : Nat) (m2 : Nat) (b : Bool) (n : Int) (l : List Go.Sa.KeySlot) (K : AV → Hp E → Option R) :
    runFnI (E := E) (O_laws_markKeySlotS_w_v1 N) (IT_laws_markKeySlotS_w_v1_0 N) sl_laws_markKeySlotS_w_v1 J_laws_markKeySlotS_w_v1 Go.Proofs.Try.f122 [(Go.Eng.AV.sc (Go.Eng.SV.slc 0 (Option.some (m, (m1, m2))) b)), (Go.Eng.AV.sc (Go.Eng.SV.int Go.IntKind.i64 n))] [(Option.some (Go.Eng.HE.mk Bool.false (Go.Eng.HB.rows (Go.Sa.B.iKeySlot l))))] K =
      g_laws_markKeySlotS_w_v1 N m m1 m2 b n l (fun n4 l3 => K (Go.Eng.AV.sc (Go.Eng.SV.int Go.IntKind.i64 n4)) [(Option.some (Go.Eng.HE.mk Bool.false (Go.Eng.HB.rows (Go.Sa.B.iKeySlot l3))))]) := by kernel_rfl
def o_laws_markKeySlotS_w_v1 (N : Nat) {R : Type} (args : List AV) (H : Hp E) (K : AV → Hp E → Option R) : Option R :=
  match args, H with
  | [(Go.Eng.AV.sc (Go.Eng.SV.slc 0 (Option.some (m, (m1, m2))) b)), (Go.Eng.AV.sc (Go.Eng.SV.int Go.IntKind.i64 n))], [(Option.some (Go.Eng.HE.mk Bool.false (Go.Eng.HB.rows (Go.Sa.B.iKeySlot l))))] => g_laws_markKeySlotS_w_v1 N m m1 m2 b n l (fun n4 l3 => K (Go.Eng.AV.sc (Go.Eng.SV.int Go.IntKind.i64 n4)) [(Option.some (Go.Eng.HE.mk Bool.false (Go.Eng.HB.rows (Go.Sa.B.iKeySlot l3))))])
  | _, _ => none
theorem o_laws_markKeySlotS_w_v1_ok (N : Nat) : FnOk E 122 (o_laws_markKeySlotS_w_v1 N) := by
  intro R args H K r h
  unfold o_laws_markKeySlotS_w_v1 at h
  dsimp only at h
  split at h
  · exact fnB_ok (ids := [0]) (top := [0]) ok (O_laws_markKeySlotS_w_v1_ok N) (jn_ok _ _ _) Go.Proofs.Try.func122 (by kernel_rfl) (IT := IT_laws_markKeySlotS_w_v1_0 N) (sl := sl_laws_markKeySlotS_w_v1) (J := J_laws_markKeySlotS_w_v1) (K := K) (H := [(Option.some (Go.Eng.HE.mk Bool.false (Go.Eng.HB.rows (Go.Sa.B.iKeySlot _))))]) (IT_laws_markKeySlotS_w_v1_0_ok N) (by kernel_rfl) rfl ((e_laws_markKeySlotS_w_v1 N _ _ _ _ _ _ K).trans h)
  · cases h
/-! ### loop.example/g00038/laws.markVolume -/
abbrev sl_laws_markVolume_w_v1 : SlotT := []
abbrev J_laws_markVolume_w_v1 : JT := jn [] [] []
noncomputable def O_laws_markVolume_w_v1 (N : Nat) : Orc E := addFn 122 (o_laws_markKeySlotS_w_v1 N) (noFn)
theorem O_laws_markVolume_w_v1_ok (N : Nat) : OrcOk (O_laws_markVolume_w_v1 N) := addFn_ok (o_laws_markKeySlotS_w_v1_ok N) (noFn_ok)
def g_laws_markVolume_w_v1 (N : Nat) {R : Type} (m : Nat) (m1 : Nat) (m2 : Nat) (b : Bool) (s : ByteArray) (n : Int) (l : List Go.Sa.KeySlot) (k : Int → (List Go.Sa.KeySlot) → Option R) : Option R :=
  (g_laws_markKeySlotS_w_v1 N m m1 m2 b n l fun n1 l1 =>
  (k n1 l1))
theorem e_laws_markVolume_w_v1 (N : Nat) {R : Type} (m : Nat) (m1 : Nat) (m2 : Nat) (b : Bool) (s : ByteArray) (n : Int) (l : List Go.Sa.KeySlot) (K : AV → Hp E → Option R) :
    runFnI (E := E) (O_laws_markVolume_w_v1 N) (noIt) sl_laws_markVolume_w_v1 J_laws_markVolume_w_v1 Go.Proofs.Try.f63 [(Go.Eng.AV.agg [(Go.Eng.SV.slc 0 (Option.some (m, (m1, m2))) b), (Go.Eng.SV.str s)]), (Go.Eng.AV.sc (Go.Eng.SV.int Go.IntKind.i64 n))] [(Option.some (Go.Eng.HE.mk Bool.false (Go.Eng.HB.rows (Go.Sa.B.iKeySlot l))))] K =
      g_laws_markVolume_w_v1 N m m1 m2 b s n l (fun n2 l2 => K (Go.Eng.AV.sc (Go.Eng.SV.int Go.IntKind.i64 n2)) [(Option.some (Go.Eng.HE.mk Bool.false (Go.Eng.HB.rows (Go.Sa.B.iKeySlot l2))))]) := by kernel_rfl
def o_laws_markVolume_w_v1 (N : Nat) {R : Type} (args : List AV) (H : Hp E) (K : AV → Hp E → Option R) : Option R :=
  match args, H with
  | [(Go.Eng.AV.agg [(Go.Eng.SV.slc 0 (Option.some (m, (m1, m2))) b), (Go.Eng.SV.str s)]), (Go.Eng.AV.sc (Go.Eng.SV.int Go.IntKind.i64 n))], [(Option.some (Go.Eng.HE.mk Bool.false (Go.Eng.HB.rows (Go.Sa.B.iKeySlot l))))] => g_laws_markVolume_w_v1 N m m1 m2 b s n l (fun n2 l2 => K (Go.Eng.AV.sc (Go.Eng.SV.int Go.IntKind.i64 n2)) [(Option.some (Go.Eng.HE.mk Bool.false (Go.Eng.HB.rows (Go.Sa.B.iKeySlot l2))))])
  | _, _ => none
theorem o_laws_markVolume_w_v1_ok (N : Nat) : FnOk E 63 (o_laws_markVolume_w_v1 N) := by
  intro R args H K r h
  unfold o_laws_markVolume_w_v1 at h
  dsimp only at h
  split at h
  · exact fnB_ok (ids := []) (top := []) ok (O_laws_markVolume_w_v1_ok N) (jn_ok _ _ _) Go.Proofs.Try.func63 (by kernel_rfl) (IT := noIt) (sl := sl_laws_markVolume_w_v1) (J := J_laws_markVolume_w_v1) (K := K) (H := [(Option.some (Go.Eng.HE.mk Bool.false (Go.Eng.HB.rows (Go.Sa.B.iKeySlot _))))]) (noIt_ok) (by kernel_rfl) rfl ((e_laws_markVolume_w_v1 N _ _ _ _ _ _ _ K).trans h)
  · cases h
/-! ### loop.example/g00038/laws.markVolumeRes -/
abbrev sl_laws_markVolumeRes_w_v1 : SlotT := []
abbrev J_laws_markVolumeRes_w_v1 : JT := jn [] [] []
noncomputable def O_laws_markVolumeRes_w_v1 (N : Nat) : Orc E := addFn 63 (o_laws_markVolume_w_v1 N) (noFn)
theorem O_laws_markVolumeRes_w_v1_ok (N : Nat) : OrcOk (O_laws_markVolumeRes_w_v1 N) := addFn_ok (o_laws_markVolume_w_v1_ok N) (noFn_ok)
def g_laws_markVolumeRes_w_v1 (N : Nat) {R : Type} (n : Int) (m : Nat) (m1 : Nat) (m2 : Nat) (b : Bool) (s : ByteArray) (n1 : Int) (l : List Go.Sa.KeySlot) (k : Int → (List Go.Sa.KeySlot) → Option R) : Option R :=
  (g_laws_markVolume_w_v1 N m m1 m2 b s n1 l fun n2 l1 =>
  (k n2 l1))
theorem e_laws_markVolumeRes_w_v1 (N : Nat) {R : Type} (n : Int) (m : Nat) (m1 : Nat) (m2 : Nat) (b : Bool) (s : ByteArray) (n1 : Int) (l : List Go.Sa.KeySlot) (K : AV → Hp E → Option R) :
    runFnI (E := E) (O_laws_markVolumeRes_w_v1 N) (noIt) sl_laws_markVolumeRes_w_v1 J_laws_markVolumeRes_w_v1 Go.Proofs.Try.f64 [(Go.Eng.AV.agg [(Go.Eng.SV.int Go.IntKind.i64 n), (Go.Eng.SV.slc 0 (Option.some (m, (m1, m2))) b), (Go.Eng.SV.str s)]), (Go.Eng.AV.sc (Go.Eng.SV.int Go.IntKind.i64 n1))] [(Option.some (Go.Eng.HE.mk Bool.false (Go.Eng.HB.rows (Go.Sa.B.iKeySlot l))))] K =
      g_laws_markVolumeRes_w_v1 N n m m1 m2 b s n1 l (fun n3 l2 => K (Go.Eng.AV.sc (Go.Eng.SV.int Go.IntKind.i64 n3)) [(Option.some (Go.Eng.HE.mk Bool.false (Go.Eng.HB.rows (Go.Sa.B.iKeySlot l2))))]) := by kernel_rfl
def o_laws_markVolumeRes_w_v1 (N : Nat) {R : Type} (args : List AV) (H : Hp E) (K : AV → Hp E → Option R) : Option R :=
  match args, H with
  | [(Go.Eng.AV.agg [(Go.Eng.SV.int Go.IntKind.i64 n), (Go.Eng.SV.slc 0 (Option.some (m, (m1, m2))) b), (Go.Eng.SV.str s)]), (Go.Eng.AV.sc (Go.Eng.SV.int Go.IntKind.i64 n1))], [(Option.some (Go.Eng.HE.mk Bool.false (Go.Eng.HB.rows (Go.Sa.B.iKeySlot l))))] => g_laws_markVolumeRes_w_v1 N n m m1 m2 b s n1 l (fun n3 l2 => K (Go.Eng.AV.sc (Go.Eng.SV.int Go.IntKind.i64 n3)) [(Option.some (Go.Eng.HE.mk Bool.false (Go.Eng.HB.rows (Go.Sa.B.iKeySlot l2))))])
  | _, _ => none
theorem o_laws_markVolumeRes_w_v1_ok (N : Nat) : FnOk E 64 (o_laws_markVolumeRes_w_v1 N) := by
  intro R args H K r h
  unfold o_laws_markVolumeRes_w_v1 at h
  dsimp only at h
  split at h
  · exact fnB_ok (ids := []) (top := []) ok (O_laws_markVolumeRes_w_v1_ok N) (jn_ok _ _ _) Go.Proofs.Try.func64 (by kernel_rfl) (IT := noIt) (sl := sl_laws_markVolumeRes_w_v1) (J := J_laws_markVolumeRes_w_v1) (K := K) (H := [(Option.some (Go.Eng.HE.mk Bool.false (Go.Eng.HB.rows (Go.Sa.B.iKeySlot _))))]) (noIt_ok) (by kernel_rfl) rfl ((e_laws_markVolumeRes_w_v1 N _ _ _ _ _ _ _ _ K).trans h)
  · cases h
/-! ### loop.example/g00038/laws.heldKeySlotS -/
abbrev sl_laws_heldKeySlotS_r : SlotT := [(0, ([0, 1, 5], [1, 4]))]
abbrev J_laws_heldKeySlotS_r : JT := jn [] [] []
noncomputable def O_laws_heldKeySlotS_r (N : Nat) : Orc E := addFn 100 (o_laws_markText N) (noFn)
theorem O_laws_heldKeySlotS_r_ok (N : Nat) : OrcOk (O_laws_heldKeySlotS_r N) := addFn_ok (o_laws_markText_ok N) (noFn_ok)
def s_laws_heldKeySlotS_r_0 (N : Nat) {R : Type} (b1 : Bool) (l1 : List Go.Sa.KeySlot) (n1 : Int) (n2 : Int) (ag : Int → Int → Option R)  (kR : Int → Option R) (kN : Int → Option R) : Option R :=
  (cond (decide ((n2 < (((List.length l1) : Nat) : Int))))
  (cond ((decide (((0 : Int) ≤ n2))) && (decide ((n2 < (((List.length l1) : Nat) : Int)))))
    (elemK l1 (Int.toNat n2) fun x =>
      (cond ((Go.Sa.KeySlot.fSalt x) != n1)
      (kR n1)
      (cond ((decide (((0 : Int) ≤ n2))) && (decide ((n2 < (((List.length l1) : Nat) : Int)))))
        (elemK l1 (Int.toNat n2) fun x1 =>
          (g_laws_markText N (Go.IntKind.wrap Go.IntKind.i64 (n1 + (1 : Int))) fun s =>
          (cond (!(decide (((Go.Sa.KeySlot.fKey x1) = s))))
          (kR (Go.IntKind.wrap Go.IntKind.i64 (n1 + (1 : Int))))
          (cond ((decide (((0 : Int) ≤ n2))) && (decide ((n2 < (((List.length l1) : Nat) : Int)))))
            (elemK l1 (Int.toNat n2) fun x2 =>
              (g_laws_markText N (Go.IntKind.wrap Go.IntKind.i64 ((Go.IntKind.wrap Go.IntKind.i64 (n1 + (1 : Int))) + (1 : Int))) fun s1 =>
              (cond (!(decide (((Go.Sa.KeySlot.fTag x2) = s1))))
              (kR (Go.IntKind.wrap Go.IntKind.i64 ((Go.IntKind.wrap Go.IntKind.i64 (n1 + (1 : Int))) + (1 : Int))))
              (ag (Go.IntKind.wrap Go.IntKind.i64 ((Go.IntKind.wrap Go.IntKind.i64 ((Go.IntKind.wrap Go.IntKind.i64 (n1 + (1 : Int))) + (1 : Int))) + (1 : Int))) (Go.IntKind.wrap Go.IntKind.i64 (n2 + (1 : Int)))))))
            none))))
        none)))
    none)
  (kN n1))
def l_laws_heldKeySlotS_r_0 (N : Nat) {R : Type} (b1 : Bool) (l1 : List Go.Sa.KeySlot) (kR : Int → Option R) (kN : Int → Option R) : Nat → Int → Int → Option R
  | 0, _, _ => none
  | f + 1, n1, n2 => s_laws_heldKeySlotS_r_0 N b1 l1 n1 n2 (fun n1 n2 => l_laws_heldKeySlotS_r_0 N b1 l1 kR kN f n1 n2)  kR kN
def c_laws_heldKeySlotS_r_0 (N : Nat) {R : Type} (b1 : Bool) (l1 : List Go.Sa.KeySlot) (n1 : Int) (n2 : Int) (kR : Int → Option R) (kN : Int → Option R) : Option R := l_laws_heldKeySlotS_r_0 N b1 l1 kR kN N n1 n2
theorem se_laws_heldKeySlotS_r_0 (N : Nat) {R : Type} (b1 : Bool) (l1 : List Go.Sa.KeySlot) (n1 : Int) (n2 : Int) (AG : List (Option AV) → Hp E → Option R) (KL : Ex → List (Option AV) → Hp E → Option R) :
    iterStep (E := E) (O_laws_heldKeySlotS_r N) (fun {R} => LI (noIt) 1 42 sl_laws_heldKeySlotS_r (R := R)) J_laws_heldKeySlotS_r 1 42 0 [0, 1, 5] [1, 4] (body Go.Proofs.Try.f154 0) AG KL [(Option.some (Go.Eng.AV.sc (Go.Eng.SV.slc 0 Option.none b1))), (Option.some (Go.Eng.AV.sc (Go.Eng.SV.int Go.IntKind.i64 n1))), (Option.some (Go.Eng.AV.sc (Go.Eng.SV.int Go.IntKind.i64 n2)))] [(Option.some (Go.Eng.HE.mk Bool.true (Go.Eng.HB.rows (Go.Sa.B.iKeySlot l1))))] =
      s_laws_heldKeySlotS_r_0 N b1 l1 n1 n2 (fun n1 n2 => AG [(Option.some (Go.Eng.AV.sc (Go.Eng.SV.slc 0 Option.none b1))), (Option.some (Go.Eng.AV.sc (Go.Eng.SV.int Go.IntKind.i64 n1))), (Option.some (Go.Eng.AV.sc (Go.Eng.SV.int Go.IntKind.i64 n2)))] [(Option.some (Go.Eng.HE.mk Bool.true (Go.Eng.HB.rows (Go.Sa.B.iKeySlot l1))))])  (fun n6 => KL Go.Eng.Ex.ret [(Option.some (Go.Eng.AV.sc (Go.Eng.SV.int Go.IntKind.i64 n6))), (Option.some (Go.Eng.AV.sc (Go.Eng.SV.int Go.IntKind.i64 (-(1 : Int)))))] [(Option.some (Go.Eng.HE.mk Bool.true (Go.Eng.HB.rows (Go.Sa.B.iKeySlot l1))))]) (fun n7 => KL Go.Eng.Ex.normal [(Option.some (Go.Eng.AV.sc (Go.Eng.SV.int Go.IntKind.i64 n7))), Option.none] [(Option.some (Go.Eng.HE.mk Bool.true (Go.Eng.HB.rows (Go.Sa.B.iKeySlot l1))))]) := by kernel_rfl
theorem le_laws_heldKeySlotS_r_0 (N : Nat) {R : Type} (b1 : Bool) (l1 : List Go.Sa.KeySlot) (KL : Ex → List (Option AV) → Hp E → Option R) : ∀ (f : Nat), ∀ (n1 : Int) (n2 : Int), iterK (E := E) (O_laws_heldKeySlotS_r N) (fun {R} => LI (noIt) 1 42 sl_laws_heldKeySlotS_r (R := R)) J_laws_heldKeySlotS_r 1 42 0 [0, 1, 5] [1, 4] (body Go.Proofs.Try.f154 0) f [(Option.some (Go.Eng.AV.sc (Go.Eng.SV.slc 0 Option.none b1))), (Option.some (Go.Eng.AV.sc (Go.Eng.SV.int Go.IntKind.i64 n1))), (Option.some (Go.Eng.AV.sc (Go.Eng.SV.int Go.IntKind.i64 n2)))] [(Option.some (Go.Eng.HE.mk Bool.true (Go.Eng.HB.rows (Go.Sa.B.iKeySlot l1))))] KL = l_laws_heldKeySlotS_r_0 N b1 l1 (fun n6 => KL Go.Eng.Ex.ret [(Option.some (Go.Eng.AV.sc (Go.Eng.SV.int Go.IntKind.i64 n6))), (Option.some (Go.Eng.AV.sc (Go.Eng.SV.int Go.IntKind.i64 (-(1 : Int)))))] [(Option.some (Go.Eng.HE.mk Bool.true (Go.Eng.HB.rows (Go.Sa.B.iKeySlot l1))))]) (fun n7 => KL Go.Eng.Ex.normal [(Option.some (Go.Eng.AV.sc (Go.Eng.SV.int Go.IntKind.i64 n7))), Option.none] [(Option.some (Go.Eng.HE.mk Bool.true (Go.Eng.HB.rows (Go.Sa.B.iKeySlot l1))))]) f n1 n2 := by
  intro f
  induction f with
  | zero => intros; rfl
  | succ f ih =>
    intro n1 n2
    rw [iterK_succ, se_laws_heldKeySlotS_r_0]
    exact (congrArg (fun z0 => s_laws_heldKeySlotS_r_0 N b1 l1 n1 n2 z0 (fun n6 => KL Go.Eng.Ex.ret [(Option.some (Go.Eng.AV.sc (Go.Eng.SV.int Go.IntKind.i64 n6))), (Option.some (Go.Eng.AV.sc (Go.Eng.SV.int Go.IntKind.i64 (-(1 : Int)))))] [(Option.some (Go.Eng.HE.mk Bool.true (Go.Eng.HB.rows (Go.Sa.B.iKeySlot l1))))]) (fun n7 => KL Go.Eng.Ex.normal [(Option.some (Go.Eng.AV.sc (Go.Eng.SV.int Go.IntKind.i64 n7))), Option.none] [(Option.some (Go.Eng.HE.mk Bool.true (Go.Eng.HB.rows (Go.Sa.B.iKeySlot l1))))])) (funext fun n1 => funext fun n2 => ih n1 n2))
def i_laws_heldKeySlotS_r_0 (N : Nat) {R : Type} (vs : List (Option AV)) (H : Hp E) (KL : Ex → List (Option AV) → Hp E → Option R) : Option R :=
  match vs, H with
  | [(Option.some (Go.Eng.AV.sc (Go.Eng.SV.slc 0 Option.none b1))), (Option.some (Go.Eng.AV.sc (Go.Eng.SV.int Go.IntKind.i64 n1))), (Option.some (Go.Eng.AV.sc (Go.Eng.SV.int Go.IntKind.i64 n2)))], [(Option.some (Go.Eng.HE.mk Bool.true (Go.Eng.HB.rows (Go.Sa.B.iKeySlot l1))))] => c_laws_heldKeySlotS_r_0 N b1 l1 n1 n2 (fun n8 => KL Go.Eng.Ex.ret [(Option.some (Go.Eng.AV.sc (Go.Eng.SV.int Go.IntKind.i64 n8))), (Option.some (Go.Eng.AV.sc (Go.Eng.SV.int Go.IntKind.i64 (-(1 : Int)))))] [(Option.some (Go.Eng.HE.mk Bool.true (Go.Eng.HB.rows (Go.Sa.B.iKeySlot l1))))]) (fun n9 => KL Go.Eng.Ex.normal [(Option.some (Go.Eng.AV.sc (Go.Eng.SV.int Go.IntKind.i64 n9))), Option.none] [(Option.some (Go.Eng.HE.mk Bool.true (Go.Eng.HB.rows (Go.Sa.B.iKeySlot l1))))])
  | _, _ => none
noncomputable def IT_laws_heldKeySlotS_r_0 (N : Nat) : Its E := addIt 0 (i_laws_heldKeySlotS_r_0 N) (noIt)
theorem IT_laws_heldKeySlotS_r_0_ok (N : Nat) : ItOk (IT_laws_heldKeySlotS_r_0 N) 1 42 sl_laws_heldKeySlotS_r (lsB Go.Proofs.Try.f154 [0]) :=
  addItB_ok (inner := []) ok (O_laws_heldKeySlotS_r_ok N) (jn_ok _ _ _) (noIt_ok) rfl (by kernel_rfl) rfl fun vs H KL r h => by
    unfold i_laws_heldKeySlotS_r_0 at h
    split at h
    · exact ⟨_, (le_laws_heldKeySlotS_r_0 N _ _ KL N _ _).trans h⟩
    · cases h
def g_laws_heldKeySlotS_r (N : Nat) {R : Type} (b : Bool) (n : Int) (l : List Go.Sa.KeySlot) (k : Int → Option R) : Option R :=
  (c_laws_heldKeySlotS_r_0 N b l n (0 : Int) (fun n3 =>
  (k (-(1 : Int)))) (fun n4 =>
  (k n4)))
theorem e_laws_heldKeySlotS_r (N : Nat) {R : Type} (b : Bool) (n : Int) (l : List Go.Sa.KeySlot) (K : AV → Hp E → Option R) :
    runFnI (E := E) (O_laws_heldKeySlotS_r N) (IT_laws_heldKeySlotS_r_0 N) sl_laws_heldKeySlotS_r J_laws_heldKeySlotS_r Go.Proofs.Try.f154 [(Go.Eng.AV.sc (Go.Eng.SV.slc 0 Option.none b)), (Go.Eng.AV.sc (Go.Eng.SV.int Go.IntKind.i64 n))] [(Option.some (Go.Eng.HE.mk Bool.true (Go.Eng.HB.rows (Go.Sa.B.iKeySlot l))))] K =
      g_laws_heldKeySlotS_r N b n l (fun n5 => K (Go.Eng.AV.sc (Go.Eng.SV.int Go.IntKind.i64 n5)) [(Option.some (Go.Eng.HE.mk Bool.true (Go.Eng.HB.rows (Go.Sa.B.iKeySlot l))))]) := by kernel_rfl
def o_laws_heldKeySlotS_r (N : Nat) {R : Type} (args : List AV) (H : Hp E) (K : AV → Hp E → Option R) : Option R :=
  match args, H with
  | [(Go.Eng.AV.sc (Go.Eng.SV.slc 0 Option.none b)), (Go.Eng.AV.sc (Go.Eng.SV.int Go.IntKind.i64 n))], [(Option.some (Go.Eng.HE.mk Bool.true (Go.Eng.HB.rows (Go.Sa.B.iKeySlot l))))] => g_laws_heldKeySlotS_r N b n l (fun n5 => K (Go.Eng.AV.sc (Go.Eng.SV.int Go.IntKind.i64 n5)) [(Option.some (Go.Eng.HE.mk Bool.true (Go.Eng.HB.rows (Go.Sa.B.iKeySlot l))))])
  | _, _ => none
theorem o_laws_heldKeySlotS_r_ok (N : Nat) : FnOk E 154 (o_laws_heldKeySlotS_r N) := by
  intro R args H K r h
  unfold o_laws_heldKeySlotS_r at h
  dsimp only at h
  split at h
  · exact fnB_ok (ids := [0]) (top := [0]) ok (O_laws_heldKeySlotS_r_ok N) (jn_ok _ _ _) Go.Proofs.Try.func154 (by kernel_rfl) (IT := IT_laws_heldKeySlotS_r_0 N) (sl := sl_laws_heldKeySlotS_r) (J := J_laws_heldKeySlotS_r) (K := K) (H := [(Option.some (Go.Eng.HE.mk Bool.true (Go.Eng.HB.rows (Go.Sa.B.iKeySlot _))))]) (IT_laws_heldKeySlotS_r_0_ok N) (by kernel_rfl) rfl ((e_laws_heldKeySlotS_r N _ _ _ K).trans h)
  · cases h
/-! ### loop.example/g00038/laws.heldVolume -/
abbrev sl_laws_heldVolume_r : SlotT := []
abbrev J_laws_heldVolume_r : JT := jn [] [] []
noncomputable def O_laws_heldVolume_r (N : Nat) : Orc E := addFn 154 (o_laws_heldKeySlotS_r N) (noFn)
theorem O_laws_heldVolume_r_ok (N : Nat) : OrcOk (O_laws_heldVolume_r N) := addFn_ok (o_laws_heldKeySlotS_r_ok N) (noFn_ok)
def g_laws_heldVolume_r (N : Nat) {R : Type} (b : Bool) (s : ByteArray) (n : Int) (l : List Go.Sa.KeySlot) (k : Int → Option R) : Option R :=
  (g_laws_heldKeySlotS_r N b n l fun n1 =>
  (cond (decide ((n1 < (0 : Int))))
  (k (-(1 : Int)))
  (k n1)))
theorem e_laws_heldVolume_r (N : Nat) {R : Type} (b : Bool) (s : ByteArray) (n : Int) (l : List Go.Sa.KeySlot) (K : AV → Hp E → Option R) :
    runFnI (E := E) (O_laws_heldVolume_r N) (noIt) sl_laws_heldVolume_r J_laws_heldVolume_r Go.Proofs.Try.f123 [(Go.Eng.AV.agg [(Go.Eng.SV.slc 0 Option.none b), (Go.Eng.SV.str s)]), (Go.Eng.AV.sc (Go.Eng.SV.int Go.IntKind.i64 n))] [(Option.some (Go.Eng.HE.mk Bool.true (Go.Eng.HB.rows (Go.Sa.B.iKeySlot l))))] K =
      g_laws_heldVolume_r N b s n l (fun n2 => K (Go.Eng.AV.sc (Go.Eng.SV.int Go.IntKind.i64 n2)) [(Option.some (Go.Eng.HE.mk Bool.true (Go.Eng.HB.rows (Go.Sa.B.iKeySlot l))))]) := by kernel_rfl
def o_laws_heldVolume_r (N : Nat) {R : Type} (args : List AV) (H : Hp E) (K : AV → Hp E → Option R) : Option R :=
  match args, H with
  | [(Go.Eng.AV.agg [(Go.Eng.SV.slc 0 Option.none b), (Go.Eng.SV.str s)]), (Go.Eng.AV.sc (Go.Eng.SV.int Go.IntKind.i64 n))], [(Option.some (Go.Eng.HE.mk Bool.true (Go.Eng.HB.rows (Go.Sa.B.iKeySlot l))))] => g_laws_heldVolume_r N b s n l (fun n2 => K (Go.Eng.AV.sc (Go.Eng.SV.int Go.IntKind.i64 n2)) [(Option.some (Go.Eng.HE.mk Bool.true (Go.Eng.HB.rows (Go.Sa.B.iKeySlot l))))])
  | _, _ => none
theorem o_laws_heldVolume_r_ok (N : Nat) : FnOk E 123 (o_laws_heldVolume_r N) := by
  intro R args H K r h
  unfold o_laws_heldVolume_r at h
  dsimp only at h
  split at h
  · exact fnB_ok (ids := []) (top := []) ok (O_laws_heldVolume_r_ok N) (jn_ok _ _ _) Go.Proofs.Try.func123 (by kernel_rfl) (IT := noIt) (sl := sl_laws_heldVolume_r) (J := J_laws_heldVolume_r) (K := K) (H := [(Option.some (Go.Eng.HE.mk Bool.true (Go.Eng.HB.rows (Go.Sa.B.iKeySlot _))))]) (noIt_ok) (by kernel_rfl) rfl ((e_laws_heldVolume_r N _ _ _ _ K).trans h)
  · cases h
/-! ### loop.example/g00038/laws.heldVolumeRes -/
abbrev sl_laws_heldVolumeRes_r : SlotT := []
abbrev J_laws_heldVolumeRes_r : JT := jn [] [] []
noncomputable def O_laws_heldVolumeRes_r (N : Nat) : Orc E := addFn 123 (o_laws_heldVolume_r N) (noFn)
theorem O_laws_heldVolumeRes_r_ok (N : Nat) : OrcOk (O_laws_heldVolumeRes_r N) := addFn_ok (o_laws_heldVolume_r_ok N) (noFn_ok)
def g_laws_heldVolumeRes_r (N : Nat) {R : Type} (n : Int) (b : Bool) (s : ByteArray) (n1 : Int) (l : List Go.Sa.KeySlot) (k : Int → Option R) : Option R :=
  (g_laws_heldVolume_r N b s n1 l fun n2 =>
  (cond (decide ((n2 < (0 : Int))))
  (k (-(1 : Int)))
  (k n2)))
theorem e_laws_heldVolumeRes_r (N : Nat) {R : Type} (n : Int) (b : Bool) (s : ByteArray) (n1 : Int) (l : List Go.Sa.KeySlot) (K : AV → Hp E → Option R) :
    runFnI (E := E) (O_laws_heldVolumeRes_r N) (noIt) sl_laws_heldVolumeRes_r J_laws_heldVolumeRes_r Go.Proofs.Try.f65 [(Go.Eng.AV.agg [(Go.Eng.SV.int Go.IntKind.i64 n), (Go.Eng.SV.slc 0 Option.none b), (Go.Eng.SV.str s)]), (Go.Eng.AV.sc (Go.Eng.SV.int Go.IntKind.i64 n1))] [(Option.some (Go.Eng.HE.mk Bool.true (Go.Eng.HB.rows (Go.Sa.B.iKeySlot l))))] K =
      g_laws_heldVolumeRes_r N n b s n1 l (fun n3 => K (Go.Eng.AV.sc (Go.Eng.SV.int Go.IntKind.i64 n3)) [(Option.some (Go.Eng.HE.mk Bool.true (Go.Eng.HB.rows (Go.Sa.B.iKeySlot l))))]) := by kernel_rfl
def o_laws_heldVolumeRes_r (N : Nat) {R : Type} (args : List AV) (H : Hp E) (K : AV → Hp E → Option R) : Option R :=
  match args, H with
  | [(Go.Eng.AV.agg [(Go.Eng.SV.int Go.IntKind.i64 n), (Go.Eng.SV.slc 0 Option.none b), (Go.Eng.SV.str s)]), (Go.Eng.AV.sc (Go.Eng.SV.int Go.IntKind.i64 n1))], [(Option.some (Go.Eng.HE.mk Bool.true (Go.Eng.HB.rows (Go.Sa.B.iKeySlot l))))] => g_laws_heldVolumeRes_r N n b s n1 l (fun n3 => K (Go.Eng.AV.sc (Go.Eng.SV.int Go.IntKind.i64 n3)) [(Option.some (Go.Eng.HE.mk Bool.true (Go.Eng.HB.rows (Go.Sa.B.iKeySlot l))))])
  | _, _ => none
theorem o_laws_heldVolumeRes_r_ok (N : Nat) : FnOk E 65 (o_laws_heldVolumeRes_r N) := by
  intro R args H K r h
  unfold o_laws_heldVolumeRes_r at h
  dsimp only at h
  split at h
  · exact fnB_ok (ids := []) (top := []) ok (O_laws_heldVolumeRes_r_ok N) (jn_ok _ _ _) Go.Proofs.Try.func65 (by kernel_rfl) (IT := noIt) (sl := sl_laws_heldVolumeRes_r) (J := J_laws_heldVolumeRes_r) (K := K) (H := [(Option.some (Go.Eng.HE.mk Bool.true (Go.Eng.HB.rows (Go.Sa.B.iKeySlot _))))]) (noIt_ok) (by kernel_rfl) rfl ((e_laws_heldVolumeRes_r N _ _ _ _ _ K).trans h)
  · cases h
/-! ### loop.example/g00038/laws.FnExactDropPass -/
def oc_laws_FnExactDropPass_r_61 (N : Nat) {R : Type} (args : List AV) (H : Hp E) (K : AV → Hp E → Option R) : Option R :=
  match args, H with
  | [(Go.Eng.AV.agg [(Go.Eng.SV.int Go.IntKind.i64 _), (Go.Eng.SV.slc 0 Option.none _), (Go.Eng.SV.str _)]), (Go.Eng.AV.agg [(Go.Eng.SV.int Go.IntKind.i64 _), (Go.Eng.SV.slc 1 Option.none _), (Go.Eng.SV.str _)])], [(Option.some (Go.Eng.HE.mk Bool.false (Go.Eng.HB.rows (Go.Sa.B.iKeySlot _)))), (Option.some (Go.Eng.HE.mk Bool.false (Go.Eng.HB.rows (Go.Sa.B.iKeySlot _))))] => o_laws_eqVolumeRes_ww N args H K
  | [(Go.Eng.AV.agg [(Go.Eng.SV.int Go.IntKind.i64 _), (Go.Eng.SV.slc 0 Option.none _), (Go.Eng.SV.str _)]), (Go.Eng.AV.agg [(Go.Eng.SV.int Go.IntKind.i64 _), (Go.Eng.SV.slc 1 Option.none _), (Go.Eng.SV.str _)])], [(Option.some (Go.Eng.HE.mk Bool.true (Go.Eng.HB.rows (Go.Sa.B.iKeySlot _)))), (Option.some (Go.Eng.HE.mk Bool.true (Go.Eng.HB.rows (Go.Sa.B.iKeySlot _))))] => o_laws_eqVolumeRes_rr N args H K
  | [(Go.Eng.AV.agg [(Go.Eng.SV.int Go.IntKind.i64 _), (Go.Eng.SV.slc 0 Option.none _), (Go.Eng.SV.str _)]), (Go.Eng.AV.agg [(Go.Eng.SV.int Go.IntKind.i64 _), (Go.Eng.SV.slc 1 Option.none _), (Go.Eng.SV.str _)])], [(Option.some (Go.Eng.HE.mk Bool.true (Go.Eng.HB.rows (Go.Sa.B.iKeySlot _)))), (Option.some (Go.Eng.HE.mk Bool.false (Go.Eng.HB.rows (Go.Sa.B.iKeySlot _))))] => o_laws_eqVolumeRes_rw N args H K
  | _, _ => none
theorem oc_laws_FnExactDropPass_r_61_ok (N : Nat) : FnOk E 61 (oc_laws_FnExactDropPass_r_61 N) := by
  intro R args H K r h
  unfold oc_laws_FnExactDropPass_r_61 at h
  dsimp only at h
  split at h
  · exact o_laws_eqVolumeRes_ww_ok N _ _ _ _ h
  · exact o_laws_eqVolumeRes_rr_ok N _ _ _ _ h
  · exact o_laws_eqVolumeRes_rw_ok N _ _ _ _ h
  · cases h
def oc_laws_FnExactDropPass_r_64 (N : Nat) {R : Type} (args : List AV) (H : Hp E) (K : AV → Hp E → Option R) : Option R :=
  match args, H with
  | [(Go.Eng.AV.agg [(Go.Eng.SV.int Go.IntKind.i64 _), (Go.Eng.SV.slc 0 Option.none _), (Go.Eng.SV.str _)]), (Go.Eng.AV.sc (Go.Eng.SV.int Go.IntKind.i64 _))], [(Option.some (Go.Eng.HE.mk Bool.false (Go.Eng.HB.rows (Go.Sa.B.iKeySlot _))))] => o_laws_markVolumeRes_w N args H K
  | [(Go.Eng.AV.agg [(Go.Eng.SV.int Go.IntKind.i64 _), (Go.Eng.SV.slc 0 (Option.some (_, (_, _))) _), (Go.Eng.SV.str _)]), (Go.Eng.AV.sc (Go.Eng.SV.int Go.IntKind.i64 _))], [(Option.some (Go.Eng.HE.mk Bool.false (Go.Eng.HB.rows (Go.Sa.B.iKeySlot _))))] => o_laws_markVolumeRes_w_v1 N args H K
  | _, _ => none
theorem oc_laws_FnExactDropPass_r_64_ok (N : Nat) : FnOk E 64 (oc_laws_FnExactDropPass_r_64 N) := by
  intro R args H K r h
  unfold oc_laws_FnExactDropPass_r_64 at h
  dsimp only at h
  split at h
  · exact o_laws_markVolumeRes_w_ok N _ _ _ _ h
  · exact o_laws_markVolumeRes_w_v1_ok N _ _ _ _ h
  · cases h
def oc_laws_FnExactDropPass_r_65 (N : Nat) {R : Type} (args : List AV) (H : Hp E) (K : AV → Hp E → Option R) : Option R :=
  match args, H with
  | [(Go.Eng.AV.agg [(Go.Eng.SV.int Go.IntKind.i64 _), (Go.Eng.SV.slc 0 Option.none _), (Go.Eng.SV.str _)]), (Go.Eng.AV.sc (Go.Eng.SV.int Go.IntKind.i64 _))], [(Option.some (Go.Eng.HE.mk Bool.false (Go.Eng.HB.rows (Go.Sa.B.iKeySlot _))))] => o_laws_heldVolumeRes_w N args H K
  | [(Go.Eng.AV.agg [(Go.Eng.SV.int Go.IntKind.i64 _), (Go.Eng.SV.slc 0 Option.none _), (Go.Eng.SV.str _)]), (Go.Eng.AV.sc (Go.Eng.SV.int Go.IntKind.i64 _))], [(Option.some (Go.Eng.HE.mk Bool.true (Go.Eng.HB.rows (Go.Sa.B.iKeySlot _))))] => o_laws_heldVolumeRes_r N args H K
  | _, _ => none
theorem oc_laws_FnExactDropPass_r_65_ok (N : Nat) : FnOk E 65 (oc_laws_FnExactDropPass_r_65 N) := by
  intro R args H K r h
  unfold oc_laws_FnExactDropPass_r_65 at h
  dsimp only at h
  split at h
  · exact o_laws_heldVolumeRes_w_ok N _ _ _ _ h
  · exact o_laws_heldVolumeRes_r_ok N _ _ _ _ h
  · cases h
abbrev sl_laws_FnExactDropPass_r : SlotT := []
abbrev J_laws_FnExactDropPass_r : JT := jn [(14, [(46, .b)])] [] []
noncomputable def O_laws_FnExactDropPass_r (N : Nat) : Orc E := addFn 65 (oc_laws_FnExactDropPass_r_65 N) (addFn 64 (oc_laws_FnExactDropPass_r_64 N) (addFn 63 (o_laws_markVolume_w N) (addFn 62 (o_laws_eqVolume_rr N) (addFn 61 (oc_laws_FnExactDropPass_r_61 N) (addFn 60 (o_impl_DropPass_w N) (addFn 58 (o_spec_DropPass_w N) (addFn 59 (o_laws_toVolume_r N) (addFn 57 (o_laws_szVolume_r N) (noFn)))))))))
theorem O_laws_FnExactDropPass_r_ok (N : Nat) : OrcOk (O_laws_FnExactDropPass_r N) := addFn_ok (oc_laws_FnExactDropPass_r_65_ok N) (addFn_ok (oc_laws_FnExactDropPass_r_64_ok N) (addFn_ok (o_laws_markVolume_w_ok N) (addFn_ok (o_laws_eqVolume_rr_ok N) (addFn_ok (oc_laws_FnExactDropPass_r_61_ok N) (addFn_ok (o_impl_DropPass_w_ok N) (addFn_ok (o_spec_DropPass_w_ok N) (addFn_ok (o_laws_toVolume_r_ok N) (addFn_ok (o_laws_szVolume_r_ok N) (noFn_ok)))))))))
def g_laws_FnExactDropPass_r (N : Nat) {R : Type} (b : Bool) (s : ByteArray) (n : Int) (l : List Go.Sa.KeySlot) (k : Bool → Option R) : Option R :=
  (g_laws_szVolume_r N b s (1048576 : Int) l fun n1 =>
  (cond (decide ((n1 < (0 : Int))))
  (k Bool.true)
  (g_laws_toVolume_r N b s l fun l1 =>
    (g_spec_DropPass_w N Bool.false s n l1 fun n2 b1 s1 l2 =>
    (g_laws_toVolume_r N b s l fun l3 =>
    (g_impl_DropPass_w N Bool.false s n l3 (fun n3 b2 s2 l4 =>
    (g_laws_eqVolumeRes_ww N n3 b2 s2 n2 b1 s1 l4 l2 fun b3 =>
    (cond (!b3)
    (k Bool.false)
    (g_laws_toVolume_r N b s l fun l5 =>
      (g_laws_eqVolume_rr N Bool.false s Bool.false s l3 l5 fun b4 =>
      (cond (!b4)
      (k Bool.false)
      (g_laws_markVolume_w N Bool.false s (1 : Int) l3 fun n4 l6 =>
        (oK (cond (decide ((n4 < (0 : Int))))
          (some Bool.true)
          (g_laws_eqVolumeRes_rr N n3 b2 s2 n2 b1 s1 l4 l2 fun b5 =>
            (some (!b5)))) fun j =>
        (cond j
        (k Bool.false)
        (g_laws_markVolumeRes_w N n3 b2 s2 (1 : Int) l4 fun n5 l7 =>
          (g_laws_heldVolumeRes_w N n3 b2 s2 (1 : Int) l7 fun n6 =>
          (cond (decide ((n6 < (0 : Int))))
          (k Bool.false)
          (cond (n6 != n5)
            (k Bool.false)
            (g_laws_toVolume_r N b s l fun l8 =>
              (g_impl_DropPass_w N Bool.false s n l8 (fun n7 b6 s3 l9 =>
              (g_laws_eqVolumeRes_ww N n7 b6 s3 n2 b1 s1 l9 l2 fun b7 =>
              (cond (!b7)
              (k Bool.false)
              (g_laws_heldVolumeRes_w N n3 b2 s2 (1 : Int) l7 fun n8 =>
                (cond (decide ((n8 < (0 : Int))))
                (k Bool.false)
                (cond (n8 != n5)
                  (k Bool.false)
                  (k Bool.true))))))) (fun m m1 b8 l10 =>
              (cond (Nat.ble (0 + m) (List.length l10))
              (g_laws_eqVolumeRes_rw N (0 : Int) b8 s n2 b1 s1 (Go.Eng.seg l10 0 m) l2 fun b9 =>
                (cond (!b9)
                (k Bool.false)
                (g_laws_heldVolumeRes_w N n3 b2 s2 (1 : Int) l7 fun n9 =>
                  (cond (decide ((n9 < (0 : Int))))
                  (k Bool.false)
                  (cond (n9 != n5)
                    (k Bool.false)
                    (k Bool.true))))))
              none))))))))))))))))) (fun m2 m3 b10 l11 =>
    (cond (Nat.ble (0 + m2) (List.length l11))
    (g_laws_eqVolumeRes_rw N (0 : Int) b10 s n2 b1 s1 (Go.Eng.seg l11 0 m2) l2 fun b11 =>
      (cond (!b11)
      (k Bool.false)
      (g_laws_toVolume_r N b s l fun l12 =>
        (g_laws_eqVolume_rr N Bool.false s Bool.false s l3 l12 fun b12 =>
        (cond (!b12)
        (k Bool.false)
        (g_laws_markVolume_w N Bool.false s (1 : Int) l3 fun n10 l13 =>
          (oK (cond (decide ((n10 < (0 : Int))))
            (some Bool.true)
            (cond (Nat.ble (0 + m2) (List.length l11))
              (g_laws_eqVolumeRes_rr N (0 : Int) b10 s n2 b1 s1 (Go.Eng.seg l11 0 m2) l2 fun b13 =>
                (some (!b13)))
              none)) fun j1 =>
          (cond j1
          (k Bool.false)
          (g_laws_markVolumeRes_w_v1 N (0 : Int) 0 m2 m3 b10 s (1 : Int) l11 fun n11 l14 =>
            (cond (Nat.ble (0 + m2) (List.length l14))
            (g_laws_heldVolumeRes_r N (0 : Int) b10 s (1 : Int) (Go.Eng.seg l14 0 m2) fun n12 =>
              (cond (decide ((n12 < (0 : Int))))
              (k Bool.false)
              (cond (n12 != n11)
                (k Bool.false)
                (g_laws_toVolume_r N b s l fun l15 =>
                  (g_impl_DropPass_w N Bool.false s n l15 (fun n13 b14 s4 l16 =>
                  (g_laws_eqVolumeRes_ww N n13 b14 s4 n2 b1 s1 l16 l2 fun b15 =>
                  (cond (!b15)
                  (k Bool.false)
                  (cond (Nat.ble (0 + m2) (List.length l14))
                    (g_laws_heldVolumeRes_r N (0 : Int) b10 s (1 : Int) (Go.Eng.seg l14 0 m2) fun n14 =>
                      (cond (decide ((n14 < (0 : Int))))
                      (k Bool.false)
                      (cond (n14 != n11)
                        (k Bool.false)
                        (k Bool.true))))
                    none)))) (fun m4 m5 b16 l17 =>
                  (cond (Nat.ble (0 + m4) (List.length l17))
                  (g_laws_eqVolumeRes_rw N (0 : Int) b16 s n2 b1 s1 (Go.Eng.seg l17 0 m4) l2 fun b17 =>
                    (cond (!b17)
                    (k Bool.false)
                    (cond (Nat.ble (0 + m2) (List.length l14))
                      (g_laws_heldVolumeRes_r N (0 : Int) b10 s (1 : Int) (Go.Eng.seg l14 0 m2) fun n15 =>
                        (cond (decide ((n15 < (0 : Int))))
                        (k Bool.false)
                        (cond (n15 != n11)
                          (k Bool.false)
                          (k Bool.true))))
                      none)))
                  none)))))))
            none))))))))))
    none))))))))
theorem e_laws_FnExactDropPass_r (N : Nat) {R : Type} (b : Bool) (s : ByteArray) (n : Int) (l : List Go.Sa.KeySlot) (K : AV → Hp E → Option R) :
    runFnI (E := E) (O_laws_FnExactDropPass_r N) (noIt) sl_laws_FnExactDropPass_r J_laws_FnExactDropPass_r Go.Proofs.Try.f13 [(Go.Eng.AV.agg [(Go.Eng.SV.slc 0 Option.none b), (Go.Eng.SV.str s)]), (Go.Eng.AV.sc (Go.Eng.SV.int Go.IntKind.i64 n))] [(Option.some (Go.Eng.HE.mk Bool.true (Go.Eng.HB.rows (Go.Sa.B.lKeySlot l))))] K =
      g_laws_FnExactDropPass_r N b s n l (fun b18 => K (Go.Eng.AV.sc (Go.Eng.SV.bool b18)) [(Option.some (Go.Eng.HE.mk Bool.true (Go.Eng.HB.rows (Go.Sa.B.lKeySlot l))))]) := by kernel_rfl
def o_laws_FnExactDropPass_r (N : Nat) {R : Type} (args : List AV) (H : Hp E) (K : AV → Hp E → Option R) : Option R :=
  match args, H with
  | [(Go.Eng.AV.agg [(Go.Eng.SV.slc 0 Option.none b), (Go.Eng.SV.str s)]), (Go.Eng.AV.sc (Go.Eng.SV.int Go.IntKind.i64 n))], [(Option.some (Go.Eng.HE.mk Bool.true (Go.Eng.HB.rows (Go.Sa.B.lKeySlot l))))] => g_laws_FnExactDropPass_r N b s n l (fun b18 => K (Go.Eng.AV.sc (Go.Eng.SV.bool b18)) [(Option.some (Go.Eng.HE.mk Bool.true (Go.Eng.HB.rows (Go.Sa.B.lKeySlot l))))])
  | _, _ => none
theorem o_laws_FnExactDropPass_r_ok (N : Nat) : FnOk E 13 (o_laws_FnExactDropPass_r N) := by
  intro R args H K r h
  unfold o_laws_FnExactDropPass_r at h
  dsimp only at h
  split at h
  · exact fnB_ok (ids := []) (top := []) ok (O_laws_FnExactDropPass_r_ok N) (jn_ok _ _ _) Go.Proofs.Try.func13 (by kernel_rfl) (IT := noIt) (sl := sl_laws_FnExactDropPass_r) (J := J_laws_FnExactDropPass_r) (K := K) (H := [(Option.some (Go.Eng.HE.mk Bool.true (Go.Eng.HB.rows (Go.Sa.B.lKeySlot _))))]) (noIt_ok) (by kernel_rfl) rfl ((e_laws_FnExactDropPass_r N _ _ _ _ K).trans h)
  · cases h
end Go.Sa
