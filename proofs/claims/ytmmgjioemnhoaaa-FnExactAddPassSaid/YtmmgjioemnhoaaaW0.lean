import Derived.Test.YtmmgjioemnhoaaaSpec
import Derived.Test.YtmmgjioemnhoaaaPLb
set_option linter.all false
namespace Go.Sa
open Go Go.Eng Go.Proofs
set_option maxRecDepth 100000
/-! ### loop.example/g00038/laws.szKeySlot -/
abbrev sl_laws_szKeySlot : SlotT := []
abbrev J_laws_szKeySlot : JT := jn [] [] []
noncomputable def O_laws_szKeySlot (N : Nat) : Orc E := noFn
theorem O_laws_szKeySlot_ok (N : Nat) : OrcOk (O_laws_szKeySlot N) := noFn_ok
def g_laws_szKeySlot (N : Nat) {R : Type} (n : Int) (s : ByteArray) (s1 : ByteArray) (n1 : Int) (k : Int → Option R) : Option R :=
  (cond (decide (((Go.IntKind.wrap Go.IntKind.i64 (n1 - (((ByteArray.size s) : Nat) : Int))) < (0 : Int))))
  (k (-(1 : Int)))
  (cond (decide (((Go.IntKind.wrap Go.IntKind.i64 ((Go.IntKind.wrap Go.IntKind.i64 (n1 - (((ByteArray.size s) : Nat) : Int))) - (((ByteArray.size s1) : Nat) : Int))) < (0 : Int))))
    (k (-(1 : Int)))
    (k (Go.IntKind.wrap Go.IntKind.i64 ((Go.IntKind.wrap Go.IntKind.i64 (n1 - (((ByteArray.size s) : Nat) : Int))) - (((ByteArray.size s1) : Nat) : Int))))))
theorem e_laws_szKeySlot (N : Nat) {R : Type} (n : Int) (s : ByteArray) (s1 : ByteArray) (n1 : Int) (K : AV → Hp E → Option R) :
    runFnI (E := E) (O_laws_szKeySlot N) (noIt) sl_laws_szKeySlot J_laws_szKeySlot Go.Proofs.Try.f115 [(Go.Eng.AV.agg [(Go.Eng.SV.int Go.IntKind.i64 n), (Go.Eng.SV.str s), (Go.Eng.SV.str s1)]), (Go.Eng.AV.sc (Go.Eng.SV.int Go.IntKind.i64 n1))] [] K =
      g_laws_szKeySlot N n s s1 n1 (fun n2 => K (Go.Eng.AV.sc (Go.Eng.SV.int Go.IntKind.i64 n2)) []) := by kernel_rfl
def o_laws_szKeySlot (N : Nat) {R : Type} (args : List AV) (H : Hp E) (K : AV → Hp E → Option R) : Option R :=
  match args, H with
  | [(Go.Eng.AV.agg [(Go.Eng.SV.int Go.IntKind.i64 n), (Go.Eng.SV.str s), (Go.Eng.SV.str s1)]), (Go.Eng.AV.sc (Go.Eng.SV.int Go.IntKind.i64 n1))], [] => g_laws_szKeySlot N n s s1 n1 (fun n2 => K (Go.Eng.AV.sc (Go.Eng.SV.int Go.IntKind.i64 n2)) [])
  | _, _ => none
theorem o_laws_szKeySlot_ok (N : Nat) : FnOk E 115 (o_laws_szKeySlot N) := by
  intro R args H K r h
  unfold o_laws_szKeySlot at h
  dsimp only at h
  split at h
  · exact fnB_ok (ids := []) (top := []) ok (O_laws_szKeySlot_ok N) (jn_ok _ _ _) Go.Proofs.Try.func115 (by kernel_rfl) (IT := noIt) (sl := sl_laws_szKeySlot) (J := J_laws_szKeySlot) (K := K) (H := []) (noIt_ok) (by kernel_rfl) rfl ((e_laws_szKeySlot N _ _ _ _ K).trans h)
  · cases h
/-! ### loop.example/g00038/laws.szKeySlotS -/
abbrev sl_laws_szKeySlotS_r : SlotT := [(0, ([0, 1, 5], [1, 4]))]
abbrev J_laws_szKeySlotS_r : JT := jn [] [] []
noncomputable def O_laws_szKeySlotS_r (N : Nat) : Orc E := addFn 115 (o_laws_szKeySlot N) (noFn)
theorem O_laws_szKeySlotS_r_ok (N : Nat) : OrcOk (O_laws_szKeySlotS_r N) := addFn_ok (o_laws_szKeySlot_ok N) (noFn_ok)
def s_laws_szKeySlotS_r_0 (N : Nat) {R : Type} (b1 : Bool) (l1 : List Go.Sa.KeySlot) (n1 : Int) (n2 : Int) (ag : Int → Int → Option R)  (kR : Int → Option R) (kN : Int → Option R) : Option R :=
  (cond (decide ((n2 < (((List.length l1) : Nat) : Int))))
  (cond ((decide (((0 : Int) ≤ n2))) && (decide ((n2 < (((List.length l1) : Nat) : Int)))))
    (elemK l1 (Int.toNat n2) fun x =>
      (g_laws_szKeySlot N (Go.Sa.KeySlot.fSalt x) (Go.Sa.KeySlot.fKey x) (Go.Sa.KeySlot.fTag x) n1 fun n3 =>
      (cond (decide ((n3 < (0 : Int))))
      (kR n3)
      (ag n3 (Go.IntKind.wrap Go.IntKind.i64 (n2 + (1 : Int)))))))
    none)
  (kN n1))
def l_laws_szKeySlotS_r_0 (N : Nat) {R : Type} (b1 : Bool) (l1 : List Go.Sa.KeySlot) (kR : Int → Option R) (kN : Int → Option R) : Nat → Int → Int → Option R
  | 0, _, _ => none
  | f + 1, n1, n2 => s_laws_szKeySlotS_r_0 N b1 l1 n1 n2 (fun n1 n2 => l_laws_szKeySlotS_r_0 N b1 l1 kR kN f n1 n2)  kR kN
def c_laws_szKeySlotS_r_0 (N : Nat) {R : Type} (b1 : Bool) (l1 : List Go.Sa.KeySlot) (n1 : Int) (n2 : Int) (kR : Int → Option R) (kN : Int → Option R) : Option R := l_laws_szKeySlotS_r_0 N b1 l1 kR kN N n1 n2
theorem se_laws_szKeySlotS_r_0 (N : Nat) {R : Type} (b1 : Bool) (l1 : List Go.Sa.KeySlot) (n1 : Int) (n2 : Int) (AG : List (Option AV) → Hp E → Option R) (KL : Ex → List (Option AV) → Hp E → Option R) :
    iterStep (E := E) (O_laws_szKeySlotS_r N) (fun {R} => LI (noIt) 1 27 sl_laws_szKeySlotS_r (R := R)) J_laws_szKeySlotS_r 1 27 0 [0, 1, 5] [1, 4] (body Go.Proofs.Try.f83 0) AG KL [(Option.some (Go.Eng.AV.sc (Go.Eng.SV.slc 0 Option.none b1))), (Option.some (Go.Eng.AV.sc (Go.Eng.SV.int Go.IntKind.i64 n1))), (Option.some (Go.Eng.AV.sc (Go.Eng.SV.int Go.IntKind.i64 n2)))] [(Option.some (Go.Eng.HE.mk Bool.true (Go.Eng.HB.rows (Go.Sa.B.lKeySlot l1))))] =
      s_laws_szKeySlotS_r_0 N b1 l1 n1 n2 (fun n1 n2 => AG [(Option.some (Go.Eng.AV.sc (Go.Eng.SV.slc 0 Option.none b1))), (Option.some (Go.Eng.AV.sc (Go.Eng.SV.int Go.IntKind.i64 n1))), (Option.some (Go.Eng.AV.sc (Go.Eng.SV.int Go.IntKind.i64 n2)))] [(Option.some (Go.Eng.HE.mk Bool.true (Go.Eng.HB.rows (Go.Sa.B.lKeySlot l1))))])  (fun n7 => KL Go.Eng.Ex.ret [(Option.some (Go.Eng.AV.sc (Go.Eng.SV.int Go.IntKind.i64 n7))), (Option.some (Go.Eng.AV.sc (Go.Eng.SV.int Go.IntKind.i64 (-(1 : Int)))))] [(Option.some (Go.Eng.HE.mk Bool.true (Go.Eng.HB.rows (Go.Sa.B.lKeySlot l1))))]) (fun n8 => KL Go.Eng.Ex.normal [(Option.some (Go.Eng.AV.sc (Go.Eng.SV.int Go.IntKind.i64 n8))), Option.none] [(Option.some (Go.Eng.HE.mk Bool.true (Go.Eng.HB.rows (Go.Sa.B.lKeySlot l1))))]) := by kernel_rfl
theorem le_laws_szKeySlotS_r_0 (N : Nat) {R : Type} (b1 : Bool) (l1 : List Go.Sa.KeySlot) (KL : Ex → List (Option AV) → Hp E → Option R) : ∀ (f : Nat), ∀ (n1 : Int) (n2 : Int), iterK (E := E) (O_laws_szKeySlotS_r N) (fun {R} => LI (noIt) 1 27 sl_laws_szKeySlotS_r (R := R)) J_laws_szKeySlotS_r 1 27 0 [0, 1, 5] [1, 4] (body Go.Proofs.Try.f83 0) f [(Option.some (Go.Eng.AV.sc (Go.Eng.SV.slc 0 Option.none b1))), (Option.some (Go.Eng.AV.sc (Go.Eng.SV.int Go.IntKind.i64 n1))), (Option.some (Go.Eng.AV.sc (Go.Eng.SV.int Go.IntKind.i64 n2)))] [(Option.some (Go.Eng.HE.mk Bool.true (Go.Eng.HB.rows (Go.Sa.B.lKeySlot l1))))] KL = l_laws_szKeySlotS_r_0 N b1 l1 (fun n7 => KL Go.Eng.Ex.ret [(Option.some (Go.Eng.AV.sc (Go.Eng.SV.int Go.IntKind.i64 n7))), (Option.some (Go.Eng.AV.sc (Go.Eng.SV.int Go.IntKind.i64 (-(1 : Int)))))] [(Option.some (Go.Eng.HE.mk Bool.true (Go.Eng.HB.rows (Go.Sa.B.lKeySlot l1))))]) (fun n8 => KL Go.Eng.Ex.normal [(Option.some (Go.Eng.AV.sc (Go.Eng.SV.int Go.IntKind.i64 n8))), Option.none] [(Option.some (Go.Eng.HE.mk Bool.true (Go.Eng.HB.rows (Go.Sa.B.lKeySlot l1))))]) f n1 n2 := by
  intro f
  induction f with
  | zero => intros; rfl
  | succ f ih =>
    intro n1 n2
    rw [iterK_succ, se_laws_szKeySlotS_r_0]
    exact (congrArg (fun z0 => s_laws_szKeySlotS_r_0 N b1 l1 n1 n2 z0 (fun n7 => KL Go.Eng.Ex.ret [(Option.some (Go.Eng.AV.sc (Go.Eng.SV.int Go.IntKind.i64 n7))), (Option.some (Go.Eng.AV.sc (Go.Eng.SV.int Go.IntKind.i64 (-(1 : Int)))))] [(Option.some (Go.Eng.HE.mk Bool.true (Go.Eng.HB.rows (Go.Sa.B.lKeySlot l1))))]) (fun n8 => KL Go.Eng.Ex.normal [(Option.some (Go.Eng.AV.sc (Go.Eng.SV.int Go.IntKind.i64 n8))), Option.none] [(Option.some (Go.Eng.HE.mk Bool.true (Go.Eng.HB.rows (Go.Sa.B.lKeySlot l1))))])) (funext fun n1 => funext fun n2 => ih n1 n2))
def i_laws_szKeySlotS_r_0 (N : Nat) {R : Type} (vs : List (Option AV)) (H : Hp E) (KL : Ex → List (Option AV) → Hp E → Option R) : Option R :=
  match vs, H with
  | [(Option.some (Go.Eng.AV.sc (Go.Eng.SV.slc 0 Option.none b1))), (Option.some (Go.Eng.AV.sc (Go.Eng.SV.int Go.IntKind.i64 n1))), (Option.some (Go.Eng.AV.sc (Go.Eng.SV.int Go.IntKind.i64 n2)))], [(Option.some (Go.Eng.HE.mk Bool.true (Go.Eng.HB.rows (Go.Sa.B.lKeySlot l1))))] => c_laws_szKeySlotS_r_0 N b1 l1 n1 n2 (fun n9 => KL Go.Eng.Ex.ret [(Option.some (Go.Eng.AV.sc (Go.Eng.SV.int Go.IntKind.i64 n9))), (Option.some (Go.Eng.AV.sc (Go.Eng.SV.int Go.IntKind.i64 (-(1 : Int)))))] [(Option.some (Go.Eng.HE.mk Bool.true (Go.Eng.HB.rows (Go.Sa.B.lKeySlot l1))))]) (fun n10 => KL Go.Eng.Ex.normal [(Option.some (Go.Eng.AV.sc (Go.Eng.SV.int Go.IntKind.i64 n10))), Option.none] [(Option.some (Go.Eng.HE.mk Bool.true (Go.Eng.HB.rows (Go.Sa.B.lKeySlot l1))))])
  | _, _ => none
noncomputable def IT_laws_szKeySlotS_r_0 (N : Nat) : Its E := addIt 0 (i_laws_szKeySlotS_r_0 N) (noIt)
theorem IT_laws_szKeySlotS_r_0_ok (N : Nat) : ItOk (IT_laws_szKeySlotS_r_0 N) 1 27 sl_laws_szKeySlotS_r (lsB Go.Proofs.Try.f83 [0]) :=
  addItB_ok (inner := []) ok (O_laws_szKeySlotS_r_ok N) (jn_ok _ _ _) (noIt_ok) rfl (by kernel_rfl) rfl fun vs H KL r h => by
    unfold i_laws_szKeySlotS_r_0 at h
    split at h
    · exact ⟨_, (le_laws_szKeySlotS_r_0 N _ _ KL N _ _).trans h⟩
    · cases h
def g_laws_szKeySlotS_r (N : Nat) {R : Type} (b : Bool) (n : Int) (l : List Go.Sa.KeySlot) (k : Int → Option R) : Option R :=
  (cond (decide (((Go.IntKind.wrap Go.IntKind.i64 (n - (((List.length l) : Nat) : Int))) < (0 : Int))))
  (k (-(1 : Int)))
  (c_laws_szKeySlotS_r_0 N b l (Go.IntKind.wrap Go.IntKind.i64 (n - (((List.length l) : Nat) : Int))) (0 : Int) (fun n4 =>
    (k (-(1 : Int)))) (fun n5 =>
    (k n5))))
theorem e_laws_szKeySlotS_r (N : Nat) {R : Type} (b : Bool) (n : Int) (l : List Go.Sa.KeySlot) (K : AV → Hp E → Option R) :
    runFnI (E := E) (O_laws_szKeySlotS_r N) (IT_laws_szKeySlotS_r_0 N) sl_laws_szKeySlotS_r J_laws_szKeySlotS_r Go.Proofs.Try.f83 [(Go.Eng.AV.sc (Go.Eng.SV.slc 0 Option.none b)), (Go.Eng.AV.sc (Go.Eng.SV.int Go.IntKind.i64 n))] [(Option.some (Go.Eng.HE.mk Bool.true (Go.Eng.HB.rows (Go.Sa.B.lKeySlot l))))] K =
      g_laws_szKeySlotS_r N b n l (fun n6 => K (Go.Eng.AV.sc (Go.Eng.SV.int Go.IntKind.i64 n6)) [(Option.some (Go.Eng.HE.mk Bool.true (Go.Eng.HB.rows (Go.Sa.B.lKeySlot l))))]) := by kernel_rfl
def o_laws_szKeySlotS_r (N : Nat) {R : Type} (args : List AV) (H : Hp E) (K : AV → Hp E → Option R) : Option R :=
  match args, H with
  | [(Go.Eng.AV.sc (Go.Eng.SV.slc 0 Option.none b)), (Go.Eng.AV.sc (Go.Eng.SV.int Go.IntKind.i64 n))], [(Option.some (Go.Eng.HE.mk Bool.true (Go.Eng.HB.rows (Go.Sa.B.lKeySlot l))))] => g_laws_szKeySlotS_r N b n l (fun n6 => K (Go.Eng.AV.sc (Go.Eng.SV.int Go.IntKind.i64 n6)) [(Option.some (Go.Eng.HE.mk Bool.true (Go.Eng.HB.rows (Go.Sa.B.lKeySlot l))))])
  | _, _ => none
theorem o_laws_szKeySlotS_r_ok (N : Nat) : FnOk E 83 (o_laws_szKeySlotS_r N) := by
  intro R args H K r h
  unfold o_laws_szKeySlotS_r at h
  dsimp only at h
  split at h
  · exact fnB_ok (ids := [0]) (top := [0]) ok (O_laws_szKeySlotS_r_ok N) (jn_ok _ _ _) Go.Proofs.Try.func83 (by kernel_rfl) (IT := IT_laws_szKeySlotS_r_0 N) (sl := sl_laws_szKeySlotS_r) (J := J_laws_szKeySlotS_r) (K := K) (H := [(Option.some (Go.Eng.HE.mk Bool.true (Go.Eng.HB.rows (Go.Sa.B.lKeySlot _))))]) (IT_laws_szKeySlotS_r_0_ok N) (by kernel_rfl) rfl ((e_laws_szKeySlotS_r N _ _ _ K).trans h)
  · cases h
/-! ### loop.example/g00038/laws.szVolume -/
abbrev sl_laws_szVolume_r : SlotT := []
abbrev J_laws_szVolume_r : JT := jn [] [] []
noncomputable def O_laws_szVolume_r (N : Nat) : Orc E := addFn 83 (o_laws_szKeySlotS_r N) (noFn)
theorem O_laws_szVolume_r_ok (N : Nat) : OrcOk (O_laws_szVolume_r N) := addFn_ok (o_laws_szKeySlotS_r_ok N) (noFn_ok)
def g_laws_szVolume_r (N : Nat) {R : Type} (b : Bool) (s : ByteArray) (n : Int) (l : List Go.Sa.KeySlot) (k : Int → Option R) : Option R :=
  (g_laws_szKeySlotS_r N b n l fun n1 =>
  (cond (decide ((n1 < (0 : Int))))
  (k (-(1 : Int)))
  (cond (decide (((Go.IntKind.wrap Go.IntKind.i64 (n1 - (((ByteArray.size s) : Nat) : Int))) < (0 : Int))))
    (k (-(1 : Int)))
    (k (Go.IntKind.wrap Go.IntKind.i64 (n1 - (((ByteArray.size s) : Nat) : Int)))))))
theorem e_laws_szVolume_r (N : Nat) {R : Type} (b : Bool) (s : ByteArray) (n : Int) (l : List Go.Sa.KeySlot) (K : AV → Hp E → Option R) :
    runFnI (E := E) (O_laws_szVolume_r N) (noIt) sl_laws_szVolume_r J_laws_szVolume_r Go.Proofs.Try.f34 [(Go.Eng.AV.agg [(Go.Eng.SV.slc 0 Option.none b), (Go.Eng.SV.str s)]), (Go.Eng.AV.sc (Go.Eng.SV.int Go.IntKind.i64 n))] [(Option.some (Go.Eng.HE.mk Bool.true (Go.Eng.HB.rows (Go.Sa.B.lKeySlot l))))] K =
      g_laws_szVolume_r N b s n l (fun n2 => K (Go.Eng.AV.sc (Go.Eng.SV.int Go.IntKind.i64 n2)) [(Option.some (Go.Eng.HE.mk Bool.true (Go.Eng.HB.rows (Go.Sa.B.lKeySlot l))))]) := by kernel_rfl
def o_laws_szVolume_r (N : Nat) {R : Type} (args : List AV) (H : Hp E) (K : AV → Hp E → Option R) : Option R :=
  match args, H with
  | [(Go.Eng.AV.agg [(Go.Eng.SV.slc 0 Option.none b), (Go.Eng.SV.str s)]), (Go.Eng.AV.sc (Go.Eng.SV.int Go.IntKind.i64 n))], [(Option.some (Go.Eng.HE.mk Bool.true (Go.Eng.HB.rows (Go.Sa.B.lKeySlot l))))] => g_laws_szVolume_r N b s n l (fun n2 => K (Go.Eng.AV.sc (Go.Eng.SV.int Go.IntKind.i64 n2)) [(Option.some (Go.Eng.HE.mk Bool.true (Go.Eng.HB.rows (Go.Sa.B.lKeySlot l))))])
  | _, _ => none
theorem o_laws_szVolume_r_ok (N : Nat) : FnOk E 34 (o_laws_szVolume_r N) := by
  intro R args H K r h
  unfold o_laws_szVolume_r at h
  dsimp only at h
  split at h
  · exact fnB_ok (ids := []) (top := []) ok (O_laws_szVolume_r_ok N) (jn_ok _ _ _) Go.Proofs.Try.func34 (by kernel_rfl) (IT := noIt) (sl := sl_laws_szVolume_r) (J := J_laws_szVolume_r) (K := K) (H := [(Option.some (Go.Eng.HE.mk Bool.true (Go.Eng.HB.rows (Go.Sa.B.lKeySlot _))))]) (noIt_ok) (by kernel_rfl) rfl ((e_laws_szVolume_r N _ _ _ _ K).trans h)
  · cases h
/-! ### loop.example/g00038/laws.toKeySlot -/
abbrev sl_laws_toKeySlot : SlotT := []
abbrev J_laws_toKeySlot : JT := jn [] [] []
noncomputable def O_laws_toKeySlot (N : Nat) : Orc E := noFn
theorem O_laws_toKeySlot_ok (N : Nat) : OrcOk (O_laws_toKeySlot N) := noFn_ok
def g_laws_toKeySlot (N : Nat) {R : Type} (n : Int) (s : ByteArray) (s1 : ByteArray) (k : Option R) : Option R :=
  k
theorem e_laws_toKeySlot (N : Nat) {R : Type} (n : Int) (s : ByteArray) (s1 : ByteArray) (K : AV → Hp E → Option R) :
    runFnI (E := E) (O_laws_toKeySlot N) (noIt) sl_laws_toKeySlot J_laws_toKeySlot Go.Proofs.Try.f116 [(Go.Eng.AV.agg [(Go.Eng.SV.int Go.IntKind.i64 n), (Go.Eng.SV.str s), (Go.Eng.SV.str s1)])] [] K =
      g_laws_toKeySlot N n s s1 (K (Go.Eng.AV.agg [(Go.Eng.SV.int Go.IntKind.i64 n), (Go.Eng.SV.str s), (Go.Eng.SV.str s1)]) []) := by kernel_rfl
def o_laws_toKeySlot (N : Nat) {R : Type} (args : List AV) (H : Hp E) (K : AV → Hp E → Option R) : Option R :=
  match args, H with
  | [(Go.Eng.AV.agg [(Go.Eng.SV.int Go.IntKind.i64 n), (Go.Eng.SV.str s), (Go.Eng.SV.str s1)])], [] => g_laws_toKeySlot N n s s1 (K (Go.Eng.AV.agg [(Go.Eng.SV.int Go.IntKind.i64 n), (Go.Eng.SV.str s), (Go.Eng.SV.str s1)]) [])
  | _, _ => none
theorem o_laws_toKeySlot_ok (N : Nat) : FnOk E 116 (o_laws_toKeySlot N) := by
  intro R args H K r h
  unfold o_laws_toKeySlot at h
  dsimp only at h
  split at h
  · exact fnB_ok (ids := []) (top := []) ok (O_laws_toKeySlot_ok N) (jn_ok _ _ _) Go.Proofs.Try.func116 (by kernel_rfl) (IT := noIt) (sl := sl_laws_toKeySlot) (J := J_laws_toKeySlot) (K := K) (H := []) (noIt_ok) (by kernel_rfl) rfl ((e_laws_toKeySlot N _ _ _ K).trans h)
  · cases h
/-! ### loop.example/g00038/laws.toKeySlotS -/
abbrev sl_laws_toKeySlotS_r : SlotT := [(0, ([0, 3, 4], [3]))]
abbrev J_laws_toKeySlotS_r : JT := jn [] [] []
noncomputable def O_laws_toKeySlotS_r (N : Nat) : Orc E := addFn 116 (o_laws_toKeySlot N) (noFn)
theorem O_laws_toKeySlotS_r_ok (N : Nat) : OrcOk (O_laws_toKeySlotS_r N) := addFn_ok (o_laws_toKeySlot_ok N) (noFn_ok)
def s_laws_toKeySlotS_r_0 (N : Nat) {R : Type} (b1 : Bool) (b2 : Bool) (l1 : List Go.Sa.KeySlot) (n : Int) (l2 : List Go.Sa.KeySlot) (ag : Int → (List Go.Sa.KeySlot) → Option R)  (kN : (List Go.Sa.KeySlot) → Option R) : Option R :=
  (cond (decide ((n < (((List.length l1) : Nat) : Int))))
  (cond ((decide (((0 : Int) ≤ n))) && (decide ((n < (((List.length l1) : Nat) : Int)))))
    (elemK l1 (Int.toNat n) fun x =>
      (g_laws_toKeySlot N (Go.Sa.KeySlot.fSalt x) (Go.Sa.KeySlot.fKey x) (Go.Sa.KeySlot.fTag x) 
      (cond ((decide (((0 : Int) ≤ n))) && (decide ((n < (((List.length l2) : Nat) : Int)))))
      (elemK l2 (Int.toNat n) fun x1 =>
        (cond (Nat.blt (Int.toNat n) (List.length l2))
        (ag (Go.IntKind.wrap Go.IntKind.i64 (n + (1 : Int))) (Go.Eng.nset l2 (Int.toNat n) (Go.Sa.KeySlot.mk (Go.Sa.KeySlot.fSalt x) (Go.Sa.KeySlot.fKey x) (Go.Sa.KeySlot.fTag x))))
        none))
      none)))
    none)
  (kN l2))
def l_laws_toKeySlotS_r_0 (N : Nat) {R : Type} (b1 : Bool) (b2 : Bool) (l1 : List Go.Sa.KeySlot) (kN : (List Go.Sa.KeySlot) → Option R) : Nat → Int → (List Go.Sa.KeySlot) → Option R
  | 0, _, _ => none
  | f + 1, n, l2 => s_laws_toKeySlotS_r_0 N b1 b2 l1 n l2 (fun n l2 => l_laws_toKeySlotS_r_0 N b1 b2 l1 kN f n l2)  kN
def c_laws_toKeySlotS_r_0 (N : Nat) {R : Type} (b1 : Bool) (b2 : Bool) (l1 : List Go.Sa.KeySlot) (n : Int) (l2 : List Go.Sa.KeySlot) (kN : (List Go.Sa.KeySlot) → Option R) : Option R := l_laws_toKeySlotS_r_0 N b1 b2 l1 kN N n l2
theorem se_laws_toKeySlotS_r_0 (N : Nat) {R : Type} (b1 : Bool) (b2 : Bool) (l1 : List Go.Sa.KeySlot) (n : Int) (l2 : List Go.Sa.KeySlot) (AG : List (Option AV) → Hp E → Option R) (KL : Ex → List (Option AV) → Hp E → Option R) :
    iterStep (E := E) (O_laws_toKeySlotS_r N) (fun {R} => LI (noIt) 1 23 sl_laws_toKeySlotS_r (R := R)) J_laws_toKeySlotS_r 1 23 0 [0, 3, 4] [3] (body Go.Proofs.Try.f85 0) AG KL [(Option.some (Go.Eng.AV.sc (Go.Eng.SV.slc 0 Option.none b1))), (Option.some (Go.Eng.AV.sc (Go.Eng.SV.slc 1 Option.none b2))), (Option.some (Go.Eng.AV.sc (Go.Eng.SV.int Go.IntKind.i64 n)))] [(Option.some (Go.Eng.HE.mk Bool.true (Go.Eng.HB.rows (Go.Sa.B.lKeySlot l1)))), (Option.some (Go.Eng.HE.mk Bool.false (Go.Eng.HB.rows (Go.Sa.B.iKeySlot l2))))] =
      s_laws_toKeySlotS_r_0 N b1 b2 l1 n l2 (fun n l2 => AG [(Option.some (Go.Eng.AV.sc (Go.Eng.SV.slc 0 Option.none b1))), (Option.some (Go.Eng.AV.sc (Go.Eng.SV.slc 1 Option.none b2))), (Option.some (Go.Eng.AV.sc (Go.Eng.SV.int Go.IntKind.i64 n)))] [(Option.some (Go.Eng.HE.mk Bool.true (Go.Eng.HB.rows (Go.Sa.B.lKeySlot l1)))), (Option.some (Go.Eng.HE.mk Bool.false (Go.Eng.HB.rows (Go.Sa.B.iKeySlot l2))))])  (fun l5 => KL Go.Eng.Ex.normal [(Option.some (Go.Eng.AV.sc (Go.Eng.SV.slc 1 Option.none b2)))] [(Option.some (Go.Eng.HE.mk Bool.true (Go.Eng.HB.rows (Go.Sa.B.lKeySlot l1)))), (Option.some (Go.Eng.HE.mk Bool.false (Go.Eng.HB.rows (Go.Sa.B.iKeySlot l5))))]) := by kernel_rfl
theorem le_laws_toKeySlotS_r_0 (N : Nat) {R : Type} (b1 : Bool) (b2 : Bool) (l1 : List Go.Sa.KeySlot) (KL : Ex → List (Option AV) → Hp E → Option R) : ∀ (f : Nat), ∀ (n : Int) (l2 : List Go.Sa.KeySlot), iterK (E := E) (O_laws_toKeySlotS_r N) (fun {R} => LI (noIt) 1 23 sl_laws_toKeySlotS_r (R := R)) J_laws_toKeySlotS_r 1 23 0 [0, 3, 4] [3] (body Go.Proofs.Try.f85 0) f [(Option.some (Go.Eng.AV.sc (Go.Eng.SV.slc 0 Option.none b1))), (Option.some (Go.Eng.AV.sc (Go.Eng.SV.slc 1 Option.none b2))), (Option.some (Go.Eng.AV.sc (Go.Eng.SV.int Go.IntKind.i64 n)))] [(Option.some (Go.Eng.HE.mk Bool.true (Go.Eng.HB.rows (Go.Sa.B.lKeySlot l1)))), (Option.some (Go.Eng.HE.mk Bool.false (Go.Eng.HB.rows (Go.Sa.B.iKeySlot l2))))] KL = l_laws_toKeySlotS_r_0 N b1 b2 l1 (fun l5 => KL Go.Eng.Ex.normal [(Option.some (Go.Eng.AV.sc (Go.Eng.SV.slc 1 Option.none b2)))] [(Option.some (Go.Eng.HE.mk Bool.true (Go.Eng.HB.rows (Go.Sa.B.lKeySlot l1)))), (Option.some (Go.Eng.HE.mk Bool.false (Go.Eng.HB.rows (Go.Sa.B.iKeySlot l5))))]) f n l2 := by
  intro f
  induction f with
  | zero => intros; rfl
  | succ f ih =>
    intro n l2
    rw [iterK_succ, se_laws_toKeySlotS_r_0]
    exact (congrArg (fun z0 => s_laws_toKeySlotS_r_0 N b1 b2 l1 n l2 z0 (fun l5 => KL Go.Eng.Ex.normal [(Option.some (Go.Eng.AV.sc (Go.Eng.SV.slc 1 Option.none b2)))] [(Option.some (Go.Eng.HE.mk Bool.true (Go.Eng.HB.rows (Go.Sa.B.lKeySlot l1)))), (Option.some (Go.Eng.HE.mk Bool.false (Go.Eng.HB.rows (Go.Sa.B.iKeySlot l5))))])) (funext fun n => funext fun l2 => ih n l2))
def i_laws_toKeySlotS_r_0 (N : Nat) {R : Type} (vs : List (Option AV)) (H : Hp E) (KL : Ex → List (Option AV) → Hp E → Option R) : Option R :=
  match vs, H with
  | [(Option.some (Go.Eng.AV.sc (Go.Eng.SV.slc 0 Option.none b1))), (Option.some (Go.Eng.AV.sc (Go.Eng.SV.slc 1 Option.none b2))), (Option.some (Go.Eng.AV.sc (Go.Eng.SV.int Go.IntKind.i64 n)))], [(Option.some (Go.Eng.HE.mk Bool.true (Go.Eng.HB.rows (Go.Sa.B.lKeySlot l1)))), (Option.some (Go.Eng.HE.mk Bool.false (Go.Eng.HB.rows (Go.Sa.B.iKeySlot l2))))] => c_laws_toKeySlotS_r_0 N b1 b2 l1 n l2 (fun l6 => KL Go.Eng.Ex.normal [(Option.some (Go.Eng.AV.sc (Go.Eng.SV.slc 1 Option.none b2)))] [(Option.some (Go.Eng.HE.mk Bool.true (Go.Eng.HB.rows (Go.Sa.B.lKeySlot l1)))), (Option.some (Go.Eng.HE.mk Bool.false (Go.Eng.HB.rows (Go.Sa.B.iKeySlot l6))))])
  | _, _ => none
noncomputable def IT_laws_toKeySlotS_r_0 (N : Nat) : Its E := addIt 0 (i_laws_toKeySlotS_r_0 N) (noIt)
theorem IT_laws_toKeySlotS_r_0_ok (N : Nat) : ItOk (IT_laws_toKeySlotS_r_0 N) 1 23 sl_laws_toKeySlotS_r (lsB Go.Proofs.Try.f85 [0]) :=
  addItB_ok (inner := []) ok (O_laws_toKeySlotS_r_ok N) (jn_ok _ _ _) (noIt_ok) rfl (by kernel_rfl) rfl fun vs H KL r h => by
    unfold i_laws_toKeySlotS_r_0 at h
    split at h
    · exact ⟨_, (le_laws_toKeySlotS_r_0 N _ _ _ KL N _ _).trans h⟩
    · cases h
def g_laws_toKeySlotS_r (N : Nat) {R : Type} (b : Bool) (l : List Go.Sa.KeySlot) (k : (List Go.Sa.KeySlot) → Option R) : Option R :=
  (cond (((decide (((((List.length l) : Nat) : Int) = (((List.length l) : Nat) : Int)))) && Bool.true) && (Go.Eng.roomOk (Int.toNat (((List.length l) : Nat) : Int)) 40))
  (c_laws_toKeySlotS_r_0 N b Bool.false l (0 : Int) (List.replicate (Int.toNat (((List.length l) : Nat) : Int)) (Go.Sa.KeySlot.mk (0 : Int) (ByteArray.mk (List.toArray [])) (ByteArray.mk (List.toArray [])))) fun l3 =>
    (k l3))
  none)
theorem e_laws_toKeySlotS_r (N : Nat) {R : Type} (b : Bool) (l : List Go.Sa.KeySlot) (K : AV → Hp E → Option R) :
    runFnI (E := E) (O_laws_toKeySlotS_r N) (IT_laws_toKeySlotS_r_0 N) sl_laws_toKeySlotS_r J_laws_toKeySlotS_r Go.Proofs.Try.f85 [(Go.Eng.AV.sc (Go.Eng.SV.slc 0 Option.none b))] [(Option.some (Go.Eng.HE.mk Bool.true (Go.Eng.HB.rows (Go.Sa.B.lKeySlot l))))] K =
      g_laws_toKeySlotS_r N b l (fun l4 => K (Go.Eng.AV.sc (Go.Eng.SV.slc 1 Option.none Bool.false)) [(Option.some (Go.Eng.HE.mk Bool.true (Go.Eng.HB.rows (Go.Sa.B.lKeySlot l)))), (Option.some (Go.Eng.HE.mk Bool.false (Go.Eng.HB.rows (Go.Sa.B.iKeySlot l4))))]) := by kernel_rfl
def o_laws_toKeySlotS_r (N : Nat) {R : Type} (args : List AV) (H : Hp E) (K : AV → Hp E → Option R) : Option R :=
  match args, H with
  | [(Go.Eng.AV.sc (Go.Eng.SV.slc 0 Option.none b))], [(Option.some (Go.Eng.HE.mk Bool.true (Go.Eng.HB.rows (Go.Sa.B.lKeySlot l))))] => g_laws_toKeySlotS_r N b l (fun l4 => K (Go.Eng.AV.sc (Go.Eng.SV.slc 1 Option.none Bool.false)) [(Option.some (Go.Eng.HE.mk Bool.true (Go.Eng.HB.rows (Go.Sa.B.lKeySlot l)))), (Option.some (Go.Eng.HE.mk Bool.false (Go.Eng.HB.rows (Go.Sa.B.iKeySlot l4))))])
  | _, _ => none
theorem o_laws_toKeySlotS_r_ok (N : Nat) : FnOk E 85 (o_laws_toKeySlotS_r N) := by
  intro R args H K r h
  unfold o_laws_toKeySlotS_r at h
  dsimp only at h
  split at h
  · exact fnB_ok (ids := [0]) (top := [0]) ok (O_laws_toKeySlotS_r_ok N) (jn_ok _ _ _) Go.Proofs.Try.func85 (by kernel_rfl) (IT := IT_laws_toKeySlotS_r_0 N) (sl := sl_laws_toKeySlotS_r) (J := J_laws_toKeySlotS_r) (K := K) (H := [(Option.some (Go.Eng.HE.mk Bool.true (Go.Eng.HB.rows (Go.Sa.B.lKeySlot _))))]) (IT_laws_toKeySlotS_r_0_ok N) (by kernel_rfl) rfl ((e_laws_toKeySlotS_r N _ _ K).trans h)
  · cases h
/-! ### loop.example/g00038/laws.toVolume -/
abbrev sl_laws_toVolume_r : SlotT := []
abbrev J_laws_toVolume_r : JT := jn [] [] []
noncomputable def O_laws_toVolume_r (N : Nat) : Orc E := addFn 85 (o_laws_toKeySlotS_r N) (noFn)
theorem O_laws_toVolume_r_ok (N : Nat) : OrcOk (O_laws_toVolume_r N) := addFn_ok (o_laws_toKeySlotS_r_ok N) (noFn_ok)
def g_laws_toVolume_r (N : Nat) {R : Type} (b : Bool) (s : ByteArray) (l : List Go.Sa.KeySlot) (k : (List Go.Sa.KeySlot) → Option R) : Option R :=
  (g_laws_toKeySlotS_r N b l fun l1 =>
  (k l1))
theorem e_laws_toVolume_r (N : Nat) {R : Type} (b : Bool) (s : ByteArray) (l : List Go.Sa.KeySlot) (K : AV → Hp E → Option R) :
    runFnI (E := E) (O_laws_toVolume_r N) (noIt) sl_laws_toVolume_r J_laws_toVolume_r Go.Proofs.Try.f36 [(Go.Eng.AV.agg [(Go.Eng.SV.slc 0 Option.none b), (Go.Eng.SV.str s)])] [(Option.some (Go.Eng.HE.mk Bool.true (Go.Eng.HB.rows (Go.Sa.B.lKeySlot l))))] K =
      g_laws_toVolume_r N b s l (fun l2 => K (Go.Eng.AV.agg [(Go.Eng.SV.slc 1 Option.none Bool.false), (Go.Eng.SV.str s)]) [(Option.some (Go.Eng.HE.mk Bool.true (Go.Eng.HB.rows (Go.Sa.B.lKeySlot l)))), (Option.some (Go.Eng.HE.mk Bool.false (Go.Eng.HB.rows (Go.Sa.B.iKeySlot l2))))]) := by kernel_rfl
def o_laws_toVolume_r (N : Nat) {R : Type} (args : List AV) (H : Hp E) (K : AV → Hp E → Option R) : Option R :=
  match args, H with
  | [(Go.Eng.AV.agg [(Go.Eng.SV.slc 0 Option.none b), (Go.Eng.SV.str s)])], [(Option.some (Go.Eng.HE.mk Bool.true (Go.Eng.HB.rows (Go.Sa.B.lKeySlot l))))] => g_laws_toVolume_r N b s l (fun l2 => K (Go.Eng.AV.agg [(Go.Eng.SV.slc 1 Option.none Bool.false), (Go.Eng.SV.str s)]) [(Option.some (Go.Eng.HE.mk Bool.true (Go.Eng.HB.rows (Go.Sa.B.lKeySlot l)))), (Option.some (Go.Eng.HE.mk Bool.false (Go.Eng.HB.rows (Go.Sa.B.iKeySlot l2))))])
  | _, _ => none
theorem o_laws_toVolume_r_ok (N : Nat) : FnOk E 36 (o_laws_toVolume_r N) := by
  intro R args H K r h
  unfold o_laws_toVolume_r at h
  dsimp only at h
  split at h
  · exact fnB_ok (ids := []) (top := []) ok (O_laws_toVolume_r_ok N) (jn_ok _ _ _) Go.Proofs.Try.func36 (by kernel_rfl) (IT := noIt) (sl := sl_laws_toVolume_r) (J := J_laws_toVolume_r) (K := K) (H := [(Option.some (Go.Eng.HE.mk Bool.true (Go.Eng.HB.rows (Go.Sa.B.lKeySlot _))))]) (noIt_ok) (by kernel_rfl) rfl ((e_laws_toVolume_r N _ _ _ K).trans h)
  · cases h
/-! ### loop.example/g00038/spec.l01IsWord -/
abbrev sl_spec_l01IsWord : SlotT := []
abbrev J_spec_l01IsWord : JT := jn [(1, [(2, .b)])] [] []
noncomputable def O_spec_l01IsWord (N : Nat) : Orc E := noFn
theorem O_spec_l01IsWord_ok (N : Nat) : OrcOk (O_spec_l01IsWord N) := noFn_ok
def g_spec_l01IsWord (N : Nat) {R : Type} (n : Int) (k : Bool → Option R) : Option R :=
  (oK (cond (decide ((n ≥ (0 : Int))))
    (some (decide ((n < (4294967296 : Int)))))
    (some Bool.false)) fun j =>
  (k j))
theorem e_spec_l01IsWord (N : Nat) {R : Type} (n : Int) (K : AV → Hp E → Option R) :
    runFnI (E := E) (O_spec_l01IsWord N) (noIt) sl_spec_l01IsWord J_spec_l01IsWord Go.Proofs.Try.f78 [(Go.Eng.AV.sc (Go.Eng.SV.int Go.IntKind.i64 n))] [] K =
      g_spec_l01IsWord N n (fun b => K (Go.Eng.AV.sc (Go.Eng.SV.bool b)) []) := by kernel_rfl
def o_spec_l01IsWord (N : Nat) {R : Type} (args : List AV) (H : Hp E) (K : AV → Hp E → Option R) : Option R :=
  match args, H with
  | [(Go.Eng.AV.sc (Go.Eng.SV.int Go.IntKind.i64 n))], [] => g_spec_l01IsWord N n (fun b => K (Go.Eng.AV.sc (Go.Eng.SV.bool b)) [])
  | _, _ => none
theorem o_spec_l01IsWord_ok (N : Nat) : FnOk E 78 (o_spec_l01IsWord N) := by
  intro R args H K r h
  unfold o_spec_l01IsWord at h
  dsimp only at h
  split at h
  · exact fnB_ok (ids := []) (top := []) ok (O_spec_l01IsWord_ok N) (jn_ok _ _ _) Go.Proofs.Try.func78 (by kernel_rfl) (IT := noIt) (sl := sl_spec_l01IsWord) (J := J_spec_l01IsWord) (K := K) (H := []) (noIt_ok) (by kernel_rfl) rfl ((e_spec_l01IsWord N _ K).trans h)
  · cases h
/-! ### loop.example/g00038/spec.VolumeFault -/
abbrev sl_spec_VolumeFault_w : SlotT := [(0, ([1, 3], [2]))]
abbrev J_spec_VolumeFault_w : JT := jn [(1, [(20, .b)]), (7, [(48, .b)])] [] []
noncomputable def O_spec_VolumeFault_w (N : Nat) : Orc E := addFn 78 (o_spec_l01IsWord N) (noFn)
theorem O_spec_VolumeFault_w_ok (N : Nat) : OrcOk (O_spec_VolumeFault_w N) := addFn_ok (o_spec_l01IsWord_ok N) (noFn_ok)
def s_spec_VolumeFault_w_0 (N : Nat) {R : Type} (l1 : List Go.Sa.KeySlot) (b1 : Bool) (s1 : ByteArray) (n : Int) (ag : Int → Option R)  (kR : Option R) (kN : Option R) : Option R :=
  (cond (decide ((n < (((List.length l1) : Nat) : Int))))
  (cond ((decide (((0 : Int) ≤ n))) && (decide ((n < (((List.length l1) : Nat) : Int)))))
    (elemK l1 (Int.toNat n) fun x =>
      (oK (g_spec_l01IsWord N (Go.Sa.KeySlot.fSalt x) fun b2 =>
        (cond (!b2)
        (some Bool.true)
        (cond ((((ByteArray.size (Go.Sa.KeySlot.fKey x)) : Nat) : Int) != (16 : Int))
          (some Bool.true)
          (some ((((ByteArray.size (Go.Sa.KeySlot.fTag x)) : Nat) : Int) != (8 : Int)))))) fun j1 =>
      (cond j1
      kR
      (ag (Go.IntKind.wrap Go.IntKind.i64 (n + (1 : Int)))))))
    none)
  kN)
def l_spec_VolumeFault_w_0 (N : Nat) {R : Type} (l1 : List Go.Sa.KeySlot) (b1 : Bool) (s1 : ByteArray) (kR : Option R) (kN : Option R) : Nat → Int → Option R
  | 0, _ => none
  | f + 1, n => s_spec_VolumeFault_w_0 N l1 b1 s1 n (fun n => l_spec_VolumeFault_w_0 N l1 b1 s1 kR kN f n)  kR kN
def c_spec_VolumeFault_w_0 (N : Nat) {R : Type} (l1 : List Go.Sa.KeySlot) (b1 : Bool) (s1 : ByteArray) (n : Int) (kR : Option R) (kN : Option R) : Option R := l_spec_VolumeFault_w_0 N l1 b1 s1 kR kN N n
theorem se_spec_VolumeFault_w_0 (N : Nat) {R : Type} (l1 : List Go.Sa.KeySlot) (b1 : Bool) (s1 : ByteArray) (n : Int) (AG : List (Option AV) → Hp E → Option R) (KL : Ex → List (Option AV) → Hp E → Option R) :
    iterStep (E := E) (O_spec_VolumeFault_w N) (fun {R} => LI (noIt) 1 49 sl_spec_VolumeFault_w (R := R)) J_spec_VolumeFault_w 1 49 0 [1, 3] [2] (body Go.Proofs.Try.f84 0) AG KL [(Option.some (Go.Eng.AV.sc (Go.Eng.SV.ptr 1 0 0))), (Option.some (Go.Eng.AV.sc (Go.Eng.SV.int Go.IntKind.i64 n)))] [(Option.some (Go.Eng.HE.mk Bool.false (Go.Eng.HB.rows (Go.Sa.B.iKeySlot l1)))), (Option.some (Go.Eng.HE.mk Bool.false (Go.Eng.HB.exp Option.none [(Go.Eng.SV.slc 0 Option.none b1), (Go.Eng.SV.str s1)])))] =
      s_spec_VolumeFault_w_0 N l1 b1 s1 n (fun n => AG [(Option.some (Go.Eng.AV.sc (Go.Eng.SV.ptr 1 0 0))), (Option.some (Go.Eng.AV.sc (Go.Eng.SV.int Go.IntKind.i64 n)))] [(Option.some (Go.Eng.HE.mk Bool.false (Go.Eng.HB.rows (Go.Sa.B.iKeySlot l1)))), (Option.some (Go.Eng.HE.mk Bool.false (Go.Eng.HB.exp Option.none [(Go.Eng.SV.slc 0 Option.none b1), (Go.Eng.SV.str s1)])))])  (KL Go.Eng.Ex.ret [(Option.some (Go.Eng.AV.sc (Go.Eng.SV.int Go.IntKind.i64 (1 : Int))))] [(Option.some (Go.Eng.HE.mk Bool.false (Go.Eng.HB.rows (Go.Sa.B.iKeySlot l1))))]) (KL Go.Eng.Ex.normal [Option.none] [(Option.some (Go.Eng.HE.mk Bool.false (Go.Eng.HB.rows (Go.Sa.B.iKeySlot l1))))]) := by kernel_rfl
theorem le_spec_VolumeFault_w_0 (N : Nat) {R : Type} (l1 : List Go.Sa.KeySlot) (b1 : Bool) (s1 : ByteArray) (KL : Ex → List (Option AV) → Hp E → Option R) : ∀ (f : Nat), ∀ (n : Int), iterK (E := E) (O_spec_VolumeFault_w N) (fun {R} => LI (noIt) 1 49 sl_spec_VolumeFault_w (R := R)) J_spec_VolumeFault_w 1 49 0 [1, 3] [2] (body Go.Proofs.Try.f84 0) f [(Option.some (Go.Eng.AV.sc (Go.Eng.SV.ptr 1 0 0))), (Option.some (Go.Eng.AV.sc (Go.Eng.SV.int Go.IntKind.i64 n)))] [(Option.some (Go.Eng.HE.mk Bool.false (Go.Eng.HB.rows (Go.Sa.B.iKeySlot l1)))), (Option.some (Go.Eng.HE.mk Bool.false (Go.Eng.HB.exp Option.none [(Go.Eng.SV.slc 0 Option.none b1), (Go.Eng.SV.str s1)])))] KL = l_spec_VolumeFault_w_0 N l1 b1 s1 (KL Go.Eng.Ex.ret [(Option.some (Go.Eng.AV.sc (Go.Eng.SV.int Go.IntKind.i64 (1 : Int))))] [(Option.some (Go.Eng.HE.mk Bool.false (Go.Eng.HB.rows (Go.Sa.B.iKeySlot l1))))]) (KL Go.Eng.Ex.normal [Option.none] [(Option.some (Go.Eng.HE.mk Bool.false (Go.Eng.HB.rows (Go.Sa.B.iKeySlot l1))))]) f n := by
  intro f
  induction f with
  | zero => intros; rfl
  | succ f ih =>
    intro n
    rw [iterK_succ, se_spec_VolumeFault_w_0]
    exact (congrArg (fun z0 => s_spec_VolumeFault_w_0 N l1 b1 s1 n z0 (KL Go.Eng.Ex.ret [(Option.some (Go.Eng.AV.sc (Go.Eng.SV.int Go.IntKind.i64 (1 : Int))))] [(Option.some (Go.Eng.HE.mk Bool.false (Go.Eng.HB.rows (Go.Sa.B.iKeySlot l1))))]) (KL Go.Eng.Ex.normal [Option.none] [(Option.some (Go.Eng.HE.mk Bool.false (Go.Eng.HB.rows (Go.Sa.B.iKeySlot l1))))])) (funext fun n => ih n))
def i_spec_VolumeFault_w_0 (N : Nat) {R : Type} (vs : List (Option AV)) (H : Hp E) (KL : Ex → List (Option AV) → Hp E → Option R) : Option R :=
  match vs, H with
  | [(Option.some (Go.Eng.AV.sc (Go.Eng.SV.ptr 1 0 0))), (Option.some (Go.Eng.AV.sc (Go.Eng.SV.int Go.IntKind.i64 n)))], [(Option.some (Go.Eng.HE.mk Bool.false (Go.Eng.HB.rows (Go.Sa.B.iKeySlot l1)))), (Option.some (Go.Eng.HE.mk Bool.false (Go.Eng.HB.exp Option.none [(Go.Eng.SV.slc 0 Option.none b1), (Go.Eng.SV.str s1)])))] => c_spec_VolumeFault_w_0 N l1 b1 s1 n (KL Go.Eng.Ex.ret [(Option.some (Go.Eng.AV.sc (Go.Eng.SV.int Go.IntKind.i64 (1 : Int))))] [(Option.some (Go.Eng.HE.mk Bool.false (Go.Eng.HB.rows (Go.Sa.B.iKeySlot l1))))]) (KL Go.Eng.Ex.normal [Option.none] [(Option.some (Go.Eng.HE.mk Bool.false (Go.Eng.HB.rows (Go.Sa.B.iKeySlot l1))))])
  | _, _ => none
noncomputable def IT_spec_VolumeFault_w_0 (N : Nat) : Its E := addIt 0 (i_spec_VolumeFault_w_0 N) (noIt)
theorem IT_spec_VolumeFault_w_0_ok (N : Nat) : ItOk (IT_spec_VolumeFault_w_0 N) 1 49 sl_spec_VolumeFault_w (lsB Go.Proofs.Try.f84 [0]) :=
  addItB_ok (inner := []) ok (O_spec_VolumeFault_w_ok N) (jn_ok _ _ _) (noIt_ok) rfl (by kernel_rfl) rfl fun vs H KL r h => by
    unfold i_spec_VolumeFault_w_0 at h
    split at h
    · exact ⟨_, (le_spec_VolumeFault_w_0 N _ _ _ KL N _).trans h⟩
    · cases h
def g_spec_VolumeFault_w (N : Nat) {R : Type} (b : Bool) (s : ByteArray) (l : List Go.Sa.KeySlot) (k : Int → Option R) : Option R :=
  (oK (cond (decide (((((List.length l) : Nat) : Int) < (1 : Int))))
    (some Bool.true)
    (cond (decide (((((List.length l) : Nat) : Int) > (4 : Int))))
      (some Bool.true)
      (some ((((ByteArray.size s) : Nat) : Int) != (8 : Int))))) fun j =>
  (cond j
  (k (1 : Int))
  (c_spec_VolumeFault_w_0 N l b s (0 : Int) (
    (k (1 : Int))) (
    (k (0 : Int))))))
theorem e_spec_VolumeFault_w (N : Nat) {R : Type} (b : Bool) (s : ByteArray) (l : List Go.Sa.KeySlot) (K : AV → Hp E → Option R) :
    runFnI (E := E) (O_spec_VolumeFault_w N) (IT_spec_VolumeFault_w_0 N) sl_spec_VolumeFault_w J_spec_VolumeFault_w Go.Proofs.Try.f84 [(Go.Eng.AV.agg [(Go.Eng.SV.slc 0 Option.none b), (Go.Eng.SV.str s)])] [(Option.some (Go.Eng.HE.mk Bool.false (Go.Eng.HB.rows (Go.Sa.B.iKeySlot l))))] K =
      g_spec_VolumeFault_w N b s l (fun n1 => K (Go.Eng.AV.sc (Go.Eng.SV.int Go.IntKind.i64 n1)) [(Option.some (Go.Eng.HE.mk Bool.false (Go.Eng.HB.rows (Go.Sa.B.iKeySlot l))))]) := by kernel_rfl
def o_spec_VolumeFault_w (N : Nat) {R : Type} (args : List AV) (H : Hp E) (K : AV → Hp E → Option R) : Option R :=
  match args, H with
  | [(Go.Eng.AV.agg [(Go.Eng.SV.slc 0 Option.none b), (Go.Eng.SV.str s)])], [(Option.some (Go.Eng.HE.mk Bool.false (Go.Eng.HB.rows (Go.Sa.B.iKeySlot l))))] => g_spec_VolumeFault_w N b s l (fun n1 => K (Go.Eng.AV.sc (Go.Eng.SV.int Go.IntKind.i64 n1)) [(Option.some (Go.Eng.HE.mk Bool.false (Go.Eng.HB.rows (Go.Sa.B.iKeySlot l))))])
  | _, _ => none
theorem o_spec_VolumeFault_w_ok (N : Nat) : FnOk E 84 (o_spec_VolumeFault_w N) := by
  intro R args H K r h
  unfold o_spec_VolumeFault_w at h
  dsimp only at h
  split at h
  · exact fnB_ok (ids := [0]) (top := [0]) ok (O_spec_VolumeFault_w_ok N) (jn_ok _ _ _) Go.Proofs.Try.func84 (by kernel_rfl) (IT := IT_spec_VolumeFault_w_0 N) (sl := sl_spec_VolumeFault_w) (J := J_spec_VolumeFault_w) (K := K) (H := [(Option.some (Go.Eng.HE.mk Bool.false (Go.Eng.HB.rows (Go.Sa.B.iKeySlot _))))]) (IT_spec_VolumeFault_w_0_ok N) (by kernel_rfl) rfl ((e_spec_VolumeFault_w N _ _ _ K).trans h)
  · cases h
/-! ### loop.example/g00038/spec.l01Mod -/
abbrev sl_spec_l01Mod : SlotT := []
abbrev J_spec_l01Mod : JT := jn [] [(10, [(5, .i .i64)])] []
noncomputable def O_spec_l01Mod (N : Nat) : Orc E := noFn
theorem O_spec_l01Mod_ok (N : Nat) : OrcOk (O_spec_l01Mod N) := noFn_ok
def g_spec_l01Mod (N : Nat) {R : Type} (n : Int) (n1 : Int) (k : Int → Option R) : Option R :=
  (cond (n1 == (0 : Int))
  none
  (oK (cond (decide (((Int.tmod n n1) < (0 : Int))))
      (some (Go.IntKind.wrap Go.IntKind.i64 ((Int.tmod n n1) + n1)))
      (some (Int.tmod n n1))) fun j =>
    (k j)))
theorem e_spec_l01Mod (N : Nat) {R : Type} (n : Int) (n1 : Int) (K : AV → Hp E → Option R) :
    runFnI (E := E) (O_spec_l01Mod N) (noIt) sl_spec_l01Mod J_spec_l01Mod Go.Proofs.Try.f113 [(Go.Eng.AV.sc (Go.Eng.SV.int Go.IntKind.i64 n)), (Go.Eng.AV.sc (Go.Eng.SV.int Go.IntKind.i64 n1))] [] K =
      g_spec_l01Mod N n n1 (fun n2 => K (Go.Eng.AV.sc (Go.Eng.SV.int Go.IntKind.i64 n2)) []) := by kernel_rfl
def o_spec_l01Mod (N : Nat) {R : Type} (args : List AV) (H : Hp E) (K : AV → Hp E → Option R) : Option R :=
  match args, H with
  | [(Go.Eng.AV.sc (Go.Eng.SV.int Go.IntKind.i64 n)), (Go.Eng.AV.sc (Go.Eng.SV.int Go.IntKind.i64 n1))], [] => g_spec_l01Mod N n n1 (fun n2 => K (Go.Eng.AV.sc (Go.Eng.SV.int Go.IntKind.i64 n2)) [])
  | _, _ => none
theorem o_spec_l01Mod_ok (N : Nat) : FnOk E 113 (o_spec_l01Mod N) := by
  intro R args H K r h
  unfold o_spec_l01Mod at h
  dsimp only at h
  split at h
  · exact fnB_ok (ids := []) (top := []) ok (O_spec_l01Mod_ok N) (jn_ok _ _ _) Go.Proofs.Try.func113 (by kernel_rfl) (IT := noIt) (sl := sl_spec_l01Mod) (J := J_spec_l01Mod) (K := K) (H := []) (noIt_ok) (by kernel_rfl) rfl ((e_spec_l01Mod N _ _ K).trans h)
  · cases h
/-! ### loop.example/g00038/spec.Mix -/
abbrev sl_spec_Mix : SlotT := [(0, ([0, 5, 6], [5]))]
abbrev J_spec_Mix : JT := jn [] [] []
noncomputable def O_spec_Mix (N : Nat) : Orc E := addFn 113 (o_spec_l01Mod N) (noFn)
theorem O_spec_Mix_ok (N : Nat) : OrcOk (O_spec_Mix N) := addFn_ok (o_spec_l01Mod_ok N) (noFn_ok)
def s_spec_Mix_0 (N : Nat) {R : Type} (s1 : ByteArray) (n2 : Int) (n3 : Int) (ag : Int → Int → Option R)  (kN : Int → Option R) : Option R :=
  (cond (decide ((n3 < (((ByteArray.size s1) : Nat) : Int))))
  (cond ((decide (((0 : Int) ≤ n3))) && (decide ((n3 < (((ByteArray.size s1) : Nat) : Int)))))
    (ag (Int.tmod (Go.IntKind.wrap Go.IntKind.i64 ((Go.IntKind.wrap Go.IntKind.i64 ((Go.IntKind.wrap Go.IntKind.i64 (n2 * (65599 : Int))) + (Go.IntKind.wrap Go.IntKind.i64 (Go.Eng.bt s1 (Int.toNat n3))))) + (1 : Int))) (2147483629 : Int)) (Go.IntKind.wrap Go.IntKind.i64 (n3 + (1 : Int))))
    none)
  (kN n2))
def l_spec_Mix_0 (N : Nat) {R : Type} (s1 : ByteArray) (kN : Int → Option R) : Nat → Int → Int → Option R
  | 0, _, _ => none
  | f + 1, n2, n3 => s_spec_Mix_0 N s1 n2 n3 (fun n2 n3 => l_spec_Mix_0 N s1 kN f n2 n3)  kN
def c_spec_Mix_0 (N : Nat) {R : Type} (s1 : ByteArray) (n2 : Int) (n3 : Int) (kN : Int → Option R) : Option R := l_spec_Mix_0 N s1 kN N n2 n3
theorem se_spec_Mix_0 (N : Nat) {R : Type} (s1 : ByteArray) (n2 : Int) (n3 : Int) (AG : List (Option AV) → Hp E → Option R) (KL : Ex → List (Option AV) → Hp E → Option R) :
    iterStep (E := E) (O_spec_Mix N) (fun {R} => LI (noIt) 0 32 sl_spec_Mix (R := R)) J_spec_Mix 0 32 0 [0, 5, 6] [5] (body Go.Proofs.Try.f74 0) AG KL [(Option.some (Go.Eng.AV.sc (Go.Eng.SV.str s1))), (Option.some (Go.Eng.AV.sc (Go.Eng.SV.int Go.IntKind.i64 n2))), (Option.some (Go.Eng.AV.sc (Go.Eng.SV.int Go.IntKind.i64 n3)))] [] =
      s_spec_Mix_0 N s1 n2 n3 (fun n2 n3 => AG [(Option.some (Go.Eng.AV.sc (Go.Eng.SV.str s1))), (Option.some (Go.Eng.AV.sc (Go.Eng.SV.int Go.IntKind.i64 n2))), (Option.some (Go.Eng.AV.sc (Go.Eng.SV.int Go.IntKind.i64 n3)))] [])  (fun n6 => KL Go.Eng.Ex.normal [(Option.some (Go.Eng.AV.sc (Go.Eng.SV.int Go.IntKind.i64 n6)))] []) := by kernel_rfl
theorem le_spec_Mix_0 (N : Nat) {R : Type} (s1 : ByteArray) (KL : Ex → List (Option AV) → Hp E → Option R) : ∀ (f : Nat), ∀ (n2 : Int) (n3 : Int), iterK (E := E) (O_spec_Mix N) (fun {R} => LI (noIt) 0 32 sl_spec_Mix (R := R)) J_spec_Mix 0 32 0 [0, 5, 6] [5] (body Go.Proofs.Try.f74 0) f [(Option.some (Go.Eng.AV.sc (Go.Eng.SV.str s1))), (Option.some (Go.Eng.AV.sc (Go.Eng.SV.int Go.IntKind.i64 n2))), (Option.some (Go.Eng.AV.sc (Go.Eng.SV.int Go.IntKind.i64 n3)))] [] KL = l_spec_Mix_0 N s1 (fun n6 => KL Go.Eng.Ex.normal [(Option.some (Go.Eng.AV.sc (Go.Eng.SV.int Go.IntKind.i64 n6)))] []) f n2 n3 := by
  intro f
  induction f with
  | zero => intros; rfl
  | succ f ih =>
    intro n2 n3
    rw [iterK_succ, se_spec_Mix_0]
    exact (congrArg (fun z0 => s_spec_Mix_0 N s1 n2 n3 z0 (fun n6 => KL Go.Eng.Ex.normal [(Option.some (Go.Eng.AV.sc (Go.Eng.SV.int Go.IntKind.i64 n6)))] [])) (funext fun n2 => funext fun n3 => ih n2 n3))
def i_spec_Mix_0 (N : Nat) {R : Type} (vs : List (Option AV)) (H : Hp E) (KL : Ex → List (Option AV) → Hp E → Option R) : Option R :=
  match vs, H with
  | [(Option.some (Go.Eng.AV.sc (Go.Eng.SV.str s1))), (Option.some (Go.Eng.AV.sc (Go.Eng.SV.int Go.IntKind.i64 n2))), (Option.some (Go.Eng.AV.sc (Go.Eng.SV.int Go.IntKind.i64 n3)))], [] => c_spec_Mix_0 N s1 n2 n3 (fun n7 => KL Go.Eng.Ex.normal [(Option.some (Go.Eng.AV.sc (Go.Eng.SV.int Go.IntKind.i64 n7)))] [])
  | _, _ => none
noncomputable def IT_spec_Mix_0 (N : Nat) : Its E := addIt 0 (i_spec_Mix_0 N) (noIt)
theorem IT_spec_Mix_0_ok (N : Nat) : ItOk (IT_spec_Mix_0 N) 0 32 sl_spec_Mix (lsB Go.Proofs.Try.f74 [0]) :=
  addItB_ok (inner := []) ok (O_spec_Mix_ok N) (jn_ok _ _ _) (noIt_ok) rfl (by kernel_rfl) rfl fun vs H KL r h => by
    unfold i_spec_Mix_0 at h
    split at h
    · exact ⟨_, (le_spec_Mix_0 N _ KL N _ _).trans h⟩
    · cases h
def g_spec_Mix (N : Nat) {R : Type} (s : ByteArray) (n : Int) (k : Int → Option R) : Option R :=
  (cond (decide (((((ByteArray.size s) : Nat) : Int) > (65536 : Int))))
  (k (0 : Int))
  (g_spec_l01Mod N n (2147483629 : Int) fun n1 =>
    (c_spec_Mix_0 N s (Go.IntKind.wrap Go.IntKind.i64 (n1 + (1 : Int))) (0 : Int) fun n4 =>
    (k (Int.tmod (Go.IntKind.wrap Go.IntKind.i64 ((Go.IntKind.wrap Go.IntKind.i64 (n4 * (40503 : Int))) + (77 : Int))) (2147483629 : Int))))))
theorem e_spec_Mix (N : Nat) {R : Type} (s : ByteArray) (n : Int) (K : AV → Hp E → Option R) :
    runFnI (E := E) (O_spec_Mix N) (IT_spec_Mix_0 N) sl_spec_Mix J_spec_Mix Go.Proofs.Try.f74 [(Go.Eng.AV.sc (Go.Eng.SV.str s)), (Go.Eng.AV.sc (Go.Eng.SV.int Go.IntKind.i64 n))] [] K =
      g_spec_Mix N s n (fun n5 => K (Go.Eng.AV.sc (Go.Eng.SV.int Go.IntKind.i64 n5)) []) := by kernel_rfl
def o_spec_Mix (N : Nat) {R : Type} (args : List AV) (H : Hp E) (K : AV → Hp E → Option R) : Option R :=
  match args, H with
  | [(Go.Eng.AV.sc (Go.Eng.SV.str s)), (Go.Eng.AV.sc (Go.Eng.SV.int Go.IntKind.i64 n))], [] => g_spec_Mix N s n (fun n5 => K (Go.Eng.AV.sc (Go.Eng.SV.int Go.IntKind.i64 n5)) [])
  | _, _ => none
theorem o_spec_Mix_ok (N : Nat) : FnOk E 74 (o_spec_Mix N) := by
  intro R args H K r h
  unfold o_spec_Mix at h
  dsimp only at h
  split at h
  · exact fnB_ok (ids := [0]) (top := [0]) ok (O_spec_Mix_ok N) (jn_ok _ _ _) Go.Proofs.Try.func74 (by kernel_rfl) (IT := IT_spec_Mix_0 N) (sl := sl_spec_Mix) (J := J_spec_Mix) (K := K) (H := []) (IT_spec_Mix_0_ok N) (by kernel_rfl) rfl ((e_spec_Mix N _ _ K).trans h)
  · cases h
/-! ### loop.example/g00038/spec.Word -/
abbrev sl_spec_Word : SlotT := []
abbrev J_spec_Word : JT := jn [] [] []
noncomputable def O_spec_Word (N : Nat) : Orc E := addFn 113 (o_spec_l01Mod N) (noFn)
theorem O_spec_Word_ok (N : Nat) : OrcOk (O_spec_Word N) := addFn_ok (o_spec_l01Mod_ok N) (noFn_ok)
def g_spec_Word (N : Nat) {R : Type} (n : Int) (k : Int → Option R) : Option R :=
  (g_spec_l01Mod N n (4294967296 : Int) fun n1 =>
  (k n1))
theorem e_spec_Word (N : Nat) {R : Type} (n : Int) (K : AV → Hp E → Option R) :
    runFnI (E := E) (O_spec_Word N) (noIt) sl_spec_Word J_spec_Word Go.Proofs.Try.f107 [(Go.Eng.AV.sc (Go.Eng.SV.int Go.IntKind.i64 n))] [] K =
      g_spec_Word N n (fun n2 => K (Go.Eng.AV.sc (Go.Eng.SV.int Go.IntKind.i64 n2)) []) := by kernel_rfl
def o_spec_Word (N : Nat) {R : Type} (args : List AV) (H : Hp E) (K : AV → Hp E → Option R) : Option R :=
  match args, H with
  | [(Go.Eng.AV.sc (Go.Eng.SV.int Go.IntKind.i64 n))], [] => g_spec_Word N n (fun n2 => K (Go.Eng.AV.sc (Go.Eng.SV.int Go.IntKind.i64 n2)) [])
  | _, _ => none
theorem o_spec_Word_ok (N : Nat) : FnOk E 107 (o_spec_Word N) := by
  intro R args H K r h
  unfold o_spec_Word at h
  dsimp only at h
  split at h
  · exact fnB_ok (ids := []) (top := []) ok (O_spec_Word_ok N) (jn_ok _ _ _) Go.Proofs.Try.func107 (by kernel_rfl) (IT := noIt) (sl := sl_spec_Word) (J := J_spec_Word) (K := K) (H := []) (noIt_ok) (by kernel_rfl) rfl ((e_spec_Word N _ K).trans h)
  · cases h
/-! ### loop.example/g00038/spec.PutWord -/
abbrev sl_spec_PutWord : SlotT := []
abbrev J_spec_PutWord : JT := jn [] [] []
noncomputable def O_spec_PutWord (N : Nat) : Orc E := addFn 107 (o_spec_Word N) (noFn)
theorem O_spec_PutWord_ok (N : Nat) : OrcOk (O_spec_PutWord N) := addFn_ok (o_spec_Word_ok N) (noFn_ok)
def g_spec_PutWord (N : Nat) {R : Type} (n : Int) (k : ByteArray → Option R) : Option R :=
  (g_spec_Word N n fun n1 =>
  (k (Go.Eng.toBytes (Go.Eng.seg [(Go.IntKind.wrap Go.IntKind.u8 n1), (Go.IntKind.wrap Go.IntKind.u8 (Int.fdiv n1 (256 : Int))), (Go.IntKind.wrap Go.IntKind.u8 (Int.fdiv n1 (65536 : Int))), (Go.IntKind.wrap Go.IntKind.u8 (Int.fdiv n1 (16777216 : Int)))] 0 (List.length [(Go.IntKind.wrap Go.IntKind.u8 n1), (Go.IntKind.wrap Go.IntKind.u8 (Int.fdiv n1 (256 : Int))), (Go.IntKind.wrap Go.IntKind.u8 (Int.fdiv n1 (65536 : Int))), (Go.IntKind.wrap Go.IntKind.u8 (Int.fdiv n1 (16777216 : Int)))])))))
theorem e_spec_PutWord (N : Nat) {R : Type} (n : Int) (K : AV → Hp E → Option R) :
    runFnI (E := E) (O_spec_PutWord N) (noIt) sl_spec_PutWord J_spec_PutWord Go.Proofs.Try.f93 [(Go.Eng.AV.sc (Go.Eng.SV.int Go.IntKind.i64 n))] [] K =
      g_spec_PutWord N n (fun s => K (Go.Eng.AV.sc (Go.Eng.SV.str s)) []) := by kernel_rfl
def o_spec_PutWord (N : Nat) {R : Type} (args : List AV) (H : Hp E) (K : AV → Hp E → Option R) : Option R :=
  match args, H with
  | [(Go.Eng.AV.sc (Go.Eng.SV.int Go.IntKind.i64 n))], [] => g_spec_PutWord N n (fun s => K (Go.Eng.AV.sc (Go.Eng.SV.str s)) [])
  | _, _ => none
theorem o_spec_PutWord_ok (N : Nat) : FnOk E 93 (o_spec_PutWord N) := by
  intro R args H K r h
  unfold o_spec_PutWord at h
  dsimp only at h
  split at h
  · exact fnB_ok (ids := []) (top := []) ok (O_spec_PutWord_ok N) (jn_ok _ _ _) Go.Proofs.Try.func93 (by kernel_rfl) (IT := noIt) (sl := sl_spec_PutWord) (J := J_spec_PutWord) (K := K) (H := []) (noIt_ok) (by kernel_rfl) rfl ((e_spec_PutWord N _ K).trans h)
  · cases h
/-! ### loop.example/g00038/spec.TagOf -/
abbrev sl_spec_TagOf : SlotT := []
abbrev J_spec_TagOf : JT := jn [(1, [(12, .b)])] [] []
noncomputable def O_spec_TagOf (N : Nat) : Orc E := addFn 93 (o_spec_PutWord N) (addFn 74 (o_spec_Mix N) (noFn))
theorem O_spec_TagOf_ok (N : Nat) : OrcOk (O_spec_TagOf N) := addFn_ok (o_spec_PutWord_ok N) (addFn_ok (o_spec_Mix_ok N) (noFn_ok))
def g_spec_TagOf (N : Nat) {R : Type} (s : ByteArray) (s1 : ByteArray) (k : ByteArray → Option R) : Option R :=
  (oK (cond (decide (((((ByteArray.size s) : Nat) : Int) > (4096 : Int))))
    (some Bool.true)
    (some (decide (((((ByteArray.size s1) : Nat) : Int) > (4096 : Int)))))) fun j =>
  (cond j
  (k (ByteArray.mk (List.toArray [])))
  (cond (Nat.ble ((ByteArray.size s) + (ByteArray.size s1)) 9223372036854775807)
    (g_spec_Mix N (s ++ s1) (21 : Int) fun n =>
      (g_spec_PutWord N n fun s2 =>
      (cond (Nat.ble ((ByteArray.size s1) + (ByteArray.size s)) 9223372036854775807)
      (g_spec_Mix N (s1 ++ s) (22 : Int) fun n1 =>
        (g_spec_PutWord N n1 fun s3 =>
        (cond (Nat.ble ((ByteArray.size s2) + (ByteArray.size s3)) 9223372036854775807)
        (k (s2 ++ s3))
        none)))
      none)))
    none)))
theorem e_spec_TagOf (N : Nat) {R : Type} (s : ByteArray) (s1 : ByteArray) (K : AV → Hp E → Option R) :
    runFnI (E := E) (O_spec_TagOf N) (noIt) sl_spec_TagOf J_spec_TagOf Go.Proofs.Try.f56 [(Go.Eng.AV.sc (Go.Eng.SV.str s)), (Go.Eng.AV.sc (Go.Eng.SV.str s1))] [] K =
      g_spec_TagOf N s s1 (fun s4 => K (Go.Eng.AV.sc (Go.Eng.SV.str s4)) []) := by kernel_rfl
def o_spec_TagOf (N : Nat) {R : Type} (args : List AV) (H : Hp E) (K : AV → Hp E → Option R) : Option R :=
  match args, H with
  | [(Go.Eng.AV.sc (Go.Eng.SV.str s)), (Go.Eng.AV.sc (Go.Eng.SV.str s1))], [] => g_spec_TagOf N s s1 (fun s4 => K (Go.Eng.AV.sc (Go.Eng.SV.str s4)) [])
  | _, _ => none
theorem o_spec_TagOf_ok (N : Nat) : FnOk E 56 (o_spec_TagOf N) := by
  intro R args H K r h
  unfold o_spec_TagOf at h
  dsimp only at h
  split at h
  · exact fnB_ok (ids := []) (top := []) ok (O_spec_TagOf_ok N) (jn_ok _ _ _) Go.Proofs.Try.func56 (by kernel_rfl) (IT := noIt) (sl := sl_spec_TagOf) (J := J_spec_TagOf) (K := K) (H := []) (noIt_ok) (by kernel_rfl) rfl ((e_spec_TagOf N _ _ K).trans h)
  · cases h
/-! ### loop.example/g00038/spec.Crypt -/
abbrev sl_spec_Crypt : SlotT := [(0, ([7, 8, 9, 10], [8]))]
abbrev J_spec_Crypt : JT := jn [(1, [(18, .b)])] [(33, [(9, .i .i64)])] []
noncomputable def O_spec_Crypt (N : Nat) : Orc E := addFn 74 (o_spec_Mix N) (addFn 93 (o_spec_PutWord N) (noFn))
theorem O_spec_Crypt_ok (N : Nat) : OrcOk (O_spec_Crypt N) := addFn_ok (o_spec_Mix_ok N) (addFn_ok (o_spec_PutWord_ok N) (noFn_ok))
def s_spec_Crypt_0 (N : Nat) {R : Type} (s3 : ByteArray) (b : Bool) (n1 : Int) (n2 : Int) (l : List Int) (ag : Int → Int → (List Int) → Option R)  (kN : (List Int) → Option R) : Option R :=
  (cond (decide ((n2 < (((List.length l) : Nat) : Int))))
  (oK (cond ((Int.tmod n2 (3 : Int)) == (0 : Int))
      (g_spec_PutWord N (Go.IntKind.wrap Go.IntKind.i64 (Int.tdiv n2 (3 : Int))) fun s4 =>
        (cond (Nat.ble ((ByteArray.size s3) + (ByteArray.size s4)) 9223372036854775807)
        (g_spec_Mix N (s3 ++ s4) (11 : Int) fun n3 =>
          (some n3))
        none))
      (some n1)) fun j1 =>
    (cond ((decide (((0 : Int) ≤ n2))) && (decide ((n2 < (((List.length l) : Nat) : Int)))))
    (elemK l (Int.toNat n2) fun x =>
      (cond (decide (((Go.IntKind.wrap Go.IntKind.u64 (Go.IntKind.wrap Go.IntKind.i64 ((8 : Int) * (Int.tmod n2 (3 : Int))))) < (0 : Int))))
      none
      (cond ((decide (((0 : Int) ≤ n2))) && (decide ((n2 < (((List.length l) : Nat) : Int)))))
        (elemK l (Int.toNat n2) fun x1 =>
          (cond (Nat.blt (Int.toNat n2) (List.length l))
          (ag j1 (Go.IntKind.wrap Go.IntKind.i64 (n2 + (1 : Int))) (Go.Eng.nset l (Int.toNat n2) (Go.IntKind.wrap Go.IntKind.u8 (((BitVec.toNat ((BitVec.ofInt 8 x) ^^^ (BitVec.ofInt 8 (Go.IntKind.wrap Go.IntKind.u8 (Int.fdiv j1 ((2 : Int) ^ (Min.min (Int.toNat (Go.IntKind.wrap Go.IntKind.u64 (Go.IntKind.wrap Go.IntKind.i64 ((8 : Int) * (Int.tmod n2 (3 : Int)))))) 64))))))) : Nat) : Int))))
          none))
        none)))
    none))
  (kN l))
def l_spec_Crypt_0 (N : Nat) {R : Type} (s3 : ByteArray) (b : Bool) (kN : (List Int) → Option R) : Nat → Int → Int → (List Int) → Option R
  | 0, _, _, _ => none
  | f + 1, n1, n2, l => s_spec_Crypt_0 N s3 b n1 n2 l (fun n1 n2 l => l_spec_Crypt_0 N s3 b kN f n1 n2 l)  kN
def c_spec_Crypt_0 (N : Nat) {R : Type} (s3 : ByteArray) (b : Bool) (n1 : Int) (n2 : Int) (l : List Int) (kN : (List Int) → Option R) : Option R := l_spec_Crypt_0 N s3 b kN N n1 n2 l
theorem se_spec_Crypt_0 (N : Nat) {R : Type} (s3 : ByteArray) (b : Bool) (n1 : Int) (n2 : Int) (l : List Int) (AG : List (Option AV) → Hp E → Option R) (KL : Ex → List (Option AV) → Hp E → Option R) :
    iterStep (E := E) (O_spec_Crypt N) (fun {R} => LI (noIt) 0 57 sl_spec_Crypt (R := R)) J_spec_Crypt 0 57 0 [7, 8, 9, 10] [8] (body Go.Proofs.Try.f41 0) AG KL [(Option.some (Go.Eng.AV.sc (Go.Eng.SV.str s3))), (Option.some (Go.Eng.AV.sc (Go.Eng.SV.slc 0 Option.none b))), (Option.some (Go.Eng.AV.sc (Go.Eng.SV.int Go.IntKind.i64 n1))), (Option.some (Go.Eng.AV.sc (Go.Eng.SV.int Go.IntKind.i64 n2)))] [(Option.some (Go.Eng.HE.mk Bool.false (Go.Eng.HB.rows (Go.Sa.B.u8 l))))] =
      s_spec_Crypt_0 N s3 b n1 n2 l (fun n1 n2 l => AG [(Option.some (Go.Eng.AV.sc (Go.Eng.SV.str s3))), (Option.some (Go.Eng.AV.sc (Go.Eng.SV.slc 0 Option.none b))), (Option.some (Go.Eng.AV.sc (Go.Eng.SV.int Go.IntKind.i64 n1))), (Option.some (Go.Eng.AV.sc (Go.Eng.SV.int Go.IntKind.i64 n2)))] [(Option.some (Go.Eng.HE.mk Bool.false (Go.Eng.HB.rows (Go.Sa.B.u8 l))))])  (fun l2 => KL Go.Eng.Ex.normal [(Option.some (Go.Eng.AV.sc (Go.Eng.SV.slc 0 Option.none b)))] [(Option.some (Go.Eng.HE.mk Bool.false (Go.Eng.HB.rows (Go.Sa.B.u8 l2))))]) := by kernel_rfl
theorem le_spec_Crypt_0 (N : Nat) {R : Type} (s3 : ByteArray) (b : Bool) (KL : Ex → List (Option AV) → Hp E → Option R) : ∀ (f : Nat), ∀ (n1 : Int) (n2 : Int) (l : List Int), iterK (E := E) (O_spec_Crypt N) (fun {R} => LI (noIt) 0 57 sl_spec_Crypt (R := R)) J_spec_Crypt 0 57 0 [7, 8, 9, 10] [8] (body Go.Proofs.Try.f41 0) f [(Option.some (Go.Eng.AV.sc (Go.Eng.SV.str s3))), (Option.some (Go.Eng.AV.sc (Go.Eng.SV.slc 0 Option.none b))), (Option.some (Go.Eng.AV.sc (Go.Eng.SV.int Go.IntKind.i64 n1))), (Option.some (Go.Eng.AV.sc (Go.Eng.SV.int Go.IntKind.i64 n2)))] [(Option.some (Go.Eng.HE.mk Bool.false (Go.Eng.HB.rows (Go.Sa.B.u8 l))))] KL = l_spec_Crypt_0 N s3 b (fun l2 => KL Go.Eng.Ex.normal [(Option.some (Go.Eng.AV.sc (Go.Eng.SV.slc 0 Option.none b)))] [(Option.some (Go.Eng.HE.mk Bool.false (Go.Eng.HB.rows (Go.Sa.B.u8 l2))))]) f n1 n2 l := by
  intro f
  induction f with
  | zero => intros; rfl
  | succ f ih =>
    intro n1 n2 l
    rw [iterK_succ, se_spec_Crypt_0]
    exact (congrArg (fun z0 => s_spec_Crypt_0 N s3 b n1 n2 l z0 (fun l2 => KL Go.Eng.Ex.normal [(Option.some (Go.Eng.AV.sc (Go.Eng.SV.slc 0 Option.none b)))] [(Option.some (Go.Eng.HE.mk Bool.false (Go.Eng.HB.rows (Go.Sa.B.u8 l2))))])) (funext fun n1 => funext fun n2 => funext fun l => ih n1 n2 l))
def i_spec_Crypt_0 (N : Nat) {R : Type} (vs : List (Option AV)) (H : Hp E) (KL : Ex → List (Option AV) → Hp E → Option R) : Option R :=
  match vs, H with
  | [(Option.some (Go.Eng.AV.sc (Go.Eng.SV.str s3))), (Option.some (Go.Eng.AV.sc (Go.Eng.SV.slc 0 Option.none b))), (Option.some (Go.Eng.AV.sc (Go.Eng.SV.int Go.IntKind.i64 n1))), (Option.some (Go.Eng.AV.sc (Go.Eng.SV.int Go.IntKind.i64 n2)))], [(Option.some (Go.Eng.HE.mk Bool.false (Go.Eng.HB.rows (Go.Sa.B.u8 l))))] => c_spec_Crypt_0 N s3 b n1 n2 l (fun l3 => KL Go.Eng.Ex.normal [(Option.some (Go.Eng.AV.sc (Go.Eng.SV.slc 0 Option.none b)))] [(Option.some (Go.Eng.HE.mk Bool.false (Go.Eng.HB.rows (Go.Sa.B.u8 l3))))])
  | _, _ => none
noncomputable def IT_spec_Crypt_0 (N : Nat) : Its E := addIt 0 (i_spec_Crypt_0 N) (noIt)
theorem IT_spec_Crypt_0_ok (N : Nat) : ItOk (IT_spec_Crypt_0 N) 0 57 sl_spec_Crypt (lsB Go.Proofs.Try.f41 [0]) :=
  addItB_ok (inner := []) ok (O_spec_Crypt_ok N) (jn_ok _ _ _) (noIt_ok) rfl (by kernel_rfl) rfl fun vs H KL r h => by
    unfold i_spec_Crypt_0 at h
    split at h
    · exact ⟨_, (le_spec_Crypt_0 N _ _ KL N _ _ _).trans h⟩
    · cases h
def g_spec_Crypt (N : Nat) {R : Type} (s : ByteArray) (n : Int) (s1 : ByteArray) (k : ByteArray → Option R) : Option R :=
  (oK (cond (decide (((((ByteArray.size s) : Nat) : Int) > (4096 : Int))))
    (some Bool.true)
    (some (decide (((((ByteArray.size s1) : Nat) : Int) > (65536 : Int)))))) fun j =>
  (cond j
  (k (ByteArray.mk (List.toArray [])))
  (g_spec_PutWord N n fun s2 =>
    (cond (Nat.ble ((ByteArray.size s) + (ByteArray.size s2)) 9223372036854775807)
    (c_spec_Crypt_0 N (s ++ s2) Bool.false (0 : Int) (0 : Int) (Go.Eng.ofBytes s1) fun l1 =>
      (cond (Nat.ble (0 + (List.length l1)) (List.length l1))
      (k (Go.Eng.toBytes (Go.Eng.seg l1 0 (List.length l1))))
      none))
    none))))
theorem e_spec_Crypt (N : Nat) {R : Type} (s : ByteArray) (n : Int) (s1 : ByteArray) (K : AV → Hp E → Option R) :
    runFnI (E := E) (O_spec_Crypt N) (IT_spec_Crypt_0 N) sl_spec_Crypt J_spec_Crypt Go.Proofs.Try.f41 [(Go.Eng.AV.sc (Go.Eng.SV.str s)), (Go.Eng.AV.sc (Go.Eng.SV.int Go.IntKind.i64 n)), (Go.Eng.AV.sc (Go.Eng.SV.str s1))] [] K =
      g_spec_Crypt N s n s1 (fun s5 => K (Go.Eng.AV.sc (Go.Eng.SV.str s5)) []) := by kernel_rfl
def o_spec_Crypt (N : Nat) {R : Type} (args : List AV) (H : Hp E) (K : AV → Hp E → Option R) : Option R :=
  match args, H with
  | [(Go.Eng.AV.sc (Go.Eng.SV.str s)), (Go.Eng.AV.sc (Go.Eng.SV.int Go.IntKind.i64 n)), (Go.Eng.AV.sc (Go.Eng.SV.str s1))], [] => g_spec_Crypt N s n s1 (fun s5 => K (Go.Eng.AV.sc (Go.Eng.SV.str s5)) [])
  | _, _ => none
theorem o_spec_Crypt_ok (N : Nat) : FnOk E 41 (o_spec_Crypt N) := by
  intro R args H K r h
  unfold o_spec_Crypt at h
  dsimp only at h
  split at h
  · exact fnB_ok (ids := [0]) (top := [0]) ok (O_spec_Crypt_ok N) (jn_ok _ _ _) Go.Proofs.Try.func41 (by kernel_rfl) (IT := IT_spec_Crypt_0 N) (sl := sl_spec_Crypt) (J := J_spec_Crypt) (K := K) (H := []) (IT_spec_Crypt_0_ok N) (by kernel_rfl) rfl ((e_spec_Crypt N _ _ _ K).trans h)
  · cases h
/-! ### loop.example/g00038/spec.OpenVolume -/
abbrev sl_spec_OpenVolume_w : SlotT := [(0, ([1, 2, 4, 5], [4]))]
abbrev J_spec_OpenVolume_w : JT := jn [] [] []
noncomputable def O_spec_OpenVolume_w (N : Nat) : Orc E := addFn 41 (o_spec_Crypt N) (addFn 56 (o_spec_TagOf N) (addFn 84 (o_spec_VolumeFault_w N) (noFn)))
theorem O_spec_OpenVolume_w_ok (N : Nat) : OrcOk (O_spec_OpenVolume_w N) := addFn_ok (o_spec_Crypt_ok N) (addFn_ok (o_spec_TagOf_ok N) (addFn_ok (o_spec_VolumeFault_w_ok N) (noFn_ok)))
def s_spec_OpenVolume_w_0 (N : Nat) {R : Type} (s2 : ByteArray) (l1 : List Go.Sa.KeySlot) (b1 : Bool) (s3 : ByteArray) (n2 : Int) (s4 : ByteArray) (n1 : Int) (ag : Int → Option R)  (kR : ByteArray → Option R) (kN : Option R) : Option R :=
  (cond (decide ((n1 < (((List.length l1) : Nat) : Int))))
  (cond ((decide (((0 : Int) ≤ n1))) && (decide ((n1 < (((List.length l1) : Nat) : Int)))))
    (elemK l1 (Int.toNat n1) fun x =>
      (g_spec_TagOf N s2 (Go.Sa.KeySlot.fKey x) fun s5 =>
      (cond (!(decide ((s5 = (Go.Sa.KeySlot.fTag x)))))
      (ag (Go.IntKind.wrap Go.IntKind.i64 (n1 + (1 : Int))))
      (g_spec_Crypt N s2 (Go.Sa.KeySlot.fSalt x) (Go.Sa.KeySlot.fKey x) fun s6 =>
        (g_spec_TagOf N s6 (ByteArray.mk (List.toArray [])) fun s7 =>
        (cond (decide ((s7 = s3)))
        (kR s6)
        (ag (Go.IntKind.wrap Go.IntKind.i64 (n1 + (1 : Int))))))))))
    none)
  kN)
def l_spec_OpenVolume_w_0 (N : Nat) {R : Type} (s2 : ByteArray) (l1 : List Go.Sa.KeySlot) (b1 : Bool) (s3 : ByteArray) (n2 : Int) (s4 : ByteArray) (kR : ByteArray → Option R) (kN : Option R) : Nat → Int → Option R
  | 0, _ => none
  | f + 1, n1 => s_spec_OpenVolume_w_0 N s2 l1 b1 s3 n2 s4 n1 (fun n1 => l_spec_OpenVolume_w_0 N s2 l1 b1 s3 n2 s4 kR kN f n1)  kR kN
def c_spec_OpenVolume_w_0 (N : Nat) {R : Type} (s2 : ByteArray) (l1 : List Go.Sa.KeySlot) (b1 : Bool) (s3 : ByteArray) (n2 : Int) (s4 : ByteArray) (n1 : Int) (kR : ByteArray → Option R) (kN : Option R) : Option R := l_spec_OpenVolume_w_0 N s2 l1 b1 s3 n2 s4 kR kN N n1
theorem se_spec_OpenVolume_w_0 (N : Nat) {R : Type} (s2 : ByteArray) (l1 : List Go.Sa.KeySlot) (b1 : Bool) (s3 : ByteArray) (n2 : Int) (s4 : ByteArray) (n1 : Int) (AG : List (Option AV) → Hp E → Option R) (KL : Ex → List (Option AV) → Hp E → Option R) :
    iterStep (E := E) (O_spec_OpenVolume_w N) (fun {R} => LI (noIt) 1 49 sl_spec_OpenVolume_w (R := R)) J_spec_OpenVolume_w 1 49 0 [1, 2, 4, 5] [4] (body Go.Proofs.Try.f35 0) AG KL [(Option.some (Go.Eng.AV.sc (Go.Eng.SV.str s2))), (Option.some (Go.Eng.AV.sc (Go.Eng.SV.ptr 1 0 0))), (Option.some (Go.Eng.AV.sc (Go.Eng.SV.ptr 2 0 0))), (Option.some (Go.Eng.AV.sc (Go.Eng.SV.int Go.IntKind.i64 n1)))] [(Option.some (Go.Eng.HE.mk Bool.false (Go.Eng.HB.rows (Go.Sa.B.iKeySlot l1)))), (Option.some (Go.Eng.HE.mk Bool.false (Go.Eng.HB.exp Option.none [(Go.Eng.SV.slc 0 Option.none b1), (Go.Eng.SV.str s3)]))), (Option.some (Go.Eng.HE.mk Bool.false (Go.Eng.HB.exp Option.none [(Go.Eng.SV.int Go.IntKind.i64 n2), (Go.Eng.SV.str s4)])))] =
      s_spec_OpenVolume_w_0 N s2 l1 b1 s3 n2 s4 n1 (fun n1 => AG [(Option.some (Go.Eng.AV.sc (Go.Eng.SV.str s2))), (Option.some (Go.Eng.AV.sc (Go.Eng.SV.ptr 1 0 0))), (Option.some (Go.Eng.AV.sc (Go.Eng.SV.ptr 2 0 0))), (Option.some (Go.Eng.AV.sc (Go.Eng.SV.int Go.IntKind.i64 n1)))] [(Option.some (Go.Eng.HE.mk Bool.false (Go.Eng.HB.rows (Go.Sa.B.iKeySlot l1)))), (Option.some (Go.Eng.HE.mk Bool.false (Go.Eng.HB.exp Option.none [(Go.Eng.SV.slc 0 Option.none b1), (Go.Eng.SV.str s3)]))), (Option.some (Go.Eng.HE.mk Bool.false (Go.Eng.HB.exp Option.none [(Go.Eng.SV.int Go.IntKind.i64 n2), (Go.Eng.SV.str s4)])))])  (fun s10 => KL Go.Eng.Ex.ret [(Option.some (Go.Eng.AV.sc (Go.Eng.SV.ptr 1 0 0)))] [(Option.some (Go.Eng.HE.mk Bool.false (Go.Eng.HB.rows (Go.Sa.B.iKeySlot l1)))), (Option.some (Go.Eng.HE.mk Bool.false (Go.Eng.HB.exp Option.none [(Go.Eng.SV.int Go.IntKind.i64 (0 : Int)), (Go.Eng.SV.str s10)])))]) (KL Go.Eng.Ex.normal [(Option.some (Go.Eng.AV.sc (Go.Eng.SV.ptr 1 0 0)))] [(Option.some (Go.Eng.HE.mk Bool.false (Go.Eng.HB.rows (Go.Sa.B.iKeySlot l1)))), (Option.some (Go.Eng.HE.mk Bool.false (Go.Eng.HB.exp Option.none [(Go.Eng.SV.int Go.IntKind.i64 n2), (Go.Eng.SV.str s4)])))]) := by kernel_rfl
theorem le_spec_OpenVolume_w_0 (N : Nat) {R : Type} (s2 : ByteArray) (l1 : List Go.Sa.KeySlot) (b1 : Bool) (s3 : ByteArray) (n2 : Int) (s4 : ByteArray) (KL : Ex → List (Option AV) → Hp E → Option R) : ∀ (f : Nat), ∀ (n1 : Int), iterK (E := E) (O_spec_OpenVolume_w N) (fun {R} => LI (noIt) 1 49 sl_spec_OpenVolume_w (R := R)) J_spec_OpenVolume_w 1 49 0 [1, 2, 4, 5] [4] (body Go.Proofs.Try.f35 0) f [(Option.some (Go.Eng.AV.sc (Go.Eng.SV.str s2))), (Option.some (Go.Eng.AV.sc (Go.Eng.SV.ptr 1 0 0))), (Option.some (Go.Eng.AV.sc (Go.Eng.SV.ptr 2 0 0))), (Option.some (Go.Eng.AV.sc (Go.Eng.SV.int Go.IntKind.i64 n1)))] [(Option.some (Go.Eng.HE.mk Bool.false (Go.Eng.HB.rows (Go.Sa.B.iKeySlot l1)))), (Option.some (Go.Eng.HE.mk Bool.false (Go.Eng.HB.exp Option.none [(Go.Eng.SV.slc 0 Option.none b1), (Go.Eng.SV.str s3)]))), (Option.some (Go.Eng.HE.mk Bool.false (Go.Eng.HB.exp Option.none [(Go.Eng.SV.int Go.IntKind.i64 n2), (Go.Eng.SV.str s4)])))] KL = l_spec_OpenVolume_w_0 N s2 l1 b1 s3 n2 s4 (fun s10 => KL Go.Eng.Ex.ret [(Option.some (Go.Eng.AV.sc (Go.Eng.SV.ptr 1 0 0)))] [(Option.some (Go.Eng.HE.mk Bool.false (Go.Eng.HB.rows (Go.Sa.B.iKeySlot l1)))), (Option.some (Go.Eng.HE.mk Bool.false (Go.Eng.HB.exp Option.none [(Go.Eng.SV.int Go.IntKind.i64 (0 : Int)), (Go.Eng.SV.str s10)])))]) (KL Go.Eng.Ex.normal [(Option.some (Go.Eng.AV.sc (Go.Eng.SV.ptr 1 0 0)))] [(Option.some (Go.Eng.HE.mk Bool.false (Go.Eng.HB.rows (Go.Sa.B.iKeySlot l1)))), (Option.some (Go.Eng.HE.mk Bool.false (Go.Eng.HB.exp Option.none [(Go.Eng.SV.int Go.IntKind.i64 n2), (Go.Eng.SV.str s4)])))]) f n1 := by
  intro f
  induction f with
  | zero => intros; rfl
  | succ f ih =>
    intro n1
    rw [iterK_succ, se_spec_OpenVolume_w_0]
    exact (congrArg (fun z0 => s_spec_OpenVolume_w_0 N s2 l1 b1 s3 n2 s4 n1 z0 (fun s10 => KL Go.Eng.Ex.ret [(Option.some (Go.Eng.AV.sc (Go.Eng.SV.ptr 1 0 0)))] [(Option.some (Go.Eng.HE.mk Bool.false (Go.Eng.HB.rows (Go.Sa.B.iKeySlot l1)))), (Option.some (Go.Eng.HE.mk Bool.false (Go.Eng.HB.exp Option.none [(Go.Eng.SV.int Go.IntKind.i64 (0 : Int)), (Go.Eng.SV.str s10)])))]) (KL Go.Eng.Ex.normal [(Option.some (Go.Eng.AV.sc (Go.Eng.SV.ptr 1 0 0)))] [(Option.some (Go.Eng.HE.mk Bool.false (Go.Eng.HB.rows (Go.Sa.B.iKeySlot l1)))), (Option.some (Go.Eng.HE.mk Bool.false (Go.Eng.HB.exp Option.none [(Go.Eng.SV.int Go.IntKind.i64 n2), (Go.Eng.SV.str s4)])))])) (funext fun n1 => ih n1))
def i_spec_OpenVolume_w_0 (N : Nat) {R : Type} (vs : List (Option AV)) (H : Hp E) (KL : Ex → List (Option AV) → Hp E → Option R) : Option R :=
  match vs, H with
  | [(Option.some (Go.Eng.AV.sc (Go.Eng.SV.str s2))), (Option.some (Go.Eng.AV.sc (Go.Eng.SV.ptr 1 0 0))), (Option.some (Go.Eng.AV.sc (Go.Eng.SV.ptr 2 0 0))), (Option.some (Go.Eng.AV.sc (Go.Eng.SV.int Go.IntKind.i64 n1)))], [(Option.some (Go.Eng.HE.mk Bool.false (Go.Eng.HB.rows (Go.Sa.B.iKeySlot l1)))), (Option.some (Go.Eng.HE.mk Bool.false (Go.Eng.HB.exp Option.none [(Go.Eng.SV.slc 0 Option.none b1), (Go.Eng.SV.str s3)]))), (Option.some (Go.Eng.HE.mk Bool.false (Go.Eng.HB.exp Option.none [(Go.Eng.SV.int Go.IntKind.i64 n2), (Go.Eng.SV.str s4)])))] => c_spec_OpenVolume_w_0 N s2 l1 b1 s3 n2 s4 n1 (fun s11 => KL Go.Eng.Ex.ret [(Option.some (Go.Eng.AV.sc (Go.Eng.SV.ptr 1 0 0)))] [(Option.some (Go.Eng.HE.mk Bool.false (Go.Eng.HB.rows (Go.Sa.B.iKeySlot l1)))), (Option.some (Go.Eng.HE.mk Bool.false (Go.Eng.HB.exp Option.none [(Go.Eng.SV.int Go.IntKind.i64 (0 : Int)), (Go.Eng.SV.str s11)])))]) (KL Go.Eng.Ex.normal [(Option.some (Go.Eng.AV.sc (Go.Eng.SV.ptr 1 0 0)))] [(Option.some (Go.Eng.HE.mk Bool.false (Go.Eng.HB.rows (Go.Sa.B.iKeySlot l1)))), (Option.some (Go.Eng.HE.mk Bool.false (Go.Eng.HB.exp Option.none [(Go.Eng.SV.int Go.IntKind.i64 n2), (Go.Eng.SV.str s4)])))])
  | _, _ => none
noncomputable def IT_spec_OpenVolume_w_0 (N : Nat) : Its E := addIt 0 (i_spec_OpenVolume_w_0 N) (noIt)
theorem IT_spec_OpenVolume_w_0_ok (N : Nat) : ItOk (IT_spec_OpenVolume_w_0 N) 1 49 sl_spec_OpenVolume_w (lsB Go.Proofs.Try.f35 [0]) :=
  addItB_ok (inner := []) ok (O_spec_OpenVolume_w_ok N) (jn_ok _ _ _) (noIt_ok) rfl (by kernel_rfl) rfl fun vs H KL r h => by
    unfold i_spec_OpenVolume_w_0 at h
    split at h
    · exact ⟨_, (le_spec_OpenVolume_w_0 N _ _ _ _ _ _ KL N _).trans h⟩
    · cases h
def g_spec_OpenVolume_w (N : Nat) {R : Type} (b : Bool) (s : ByteArray) (s1 : ByteArray) (l : List Go.Sa.KeySlot) (k : Int → ByteArray → Option R) : Option R :=
  (cond (decide (((((ByteArray.size s1) : Nat) : Int) > (4096 : Int))))
  (k (2 : Int) (ByteArray.mk (List.toArray [])))
  (g_spec_VolumeFault_w N b s l fun n =>
    (cond (n != (0 : Int))
    (k (1 : Int) (ByteArray.mk (List.toArray [])))
    (c_spec_OpenVolume_w_0 N s1 l b s (0 : Int) (ByteArray.mk (List.toArray [])) (0 : Int) (fun s8 =>
      (k (0 : Int) s8)) (
      (k (7 : Int) (ByteArray.mk (List.toArray []))))))))
theorem e_spec_OpenVolume_w (N : Nat) {R : Type} (b : Bool) (s : ByteArray) (s1 : ByteArray) (l : List Go.Sa.KeySlot) (K : AV → Hp E → Option R) :
    runFnI (E := E) (O_spec_OpenVolume_w N) (IT_spec_OpenVolume_w_0 N) sl_spec_OpenVolume_w J_spec_OpenVolume_w Go.Proofs.Try.f35 [(Go.Eng.AV.agg [(Go.Eng.SV.slc 0 Option.none b), (Go.Eng.SV.str s)]), (Go.Eng.AV.sc (Go.Eng.SV.str s1))] [(Option.some (Go.Eng.HE.mk Bool.false (Go.Eng.HB.rows (Go.Sa.B.iKeySlot l))))] K =
      g_spec_OpenVolume_w N b s s1 l (fun n3 s9 => K (Go.Eng.AV.agg [(Go.Eng.SV.int Go.IntKind.i64 n3), (Go.Eng.SV.str s9)]) [(Option.some (Go.Eng.HE.mk Bool.false (Go.Eng.HB.rows (Go.Sa.B.iKeySlot l))))]) := by kernel_rfl
def o_spec_OpenVolume_w (N : Nat) {R : Type} (args : List AV) (H : Hp E) (K : AV → Hp E → Option R) : Option R :=
  match args, H with
  | [(Go.Eng.AV.agg [(Go.Eng.SV.slc 0 Option.none b), (Go.Eng.SV.str s)]), (Go.Eng.AV.sc (Go.Eng.SV.str s1))], [(Option.some (Go.Eng.HE.mk Bool.false (Go.Eng.HB.rows (Go.Sa.B.iKeySlot l))))] => g_spec_OpenVolume_w N b s s1 l (fun n3 s9 => K (Go.Eng.AV.agg [(Go.Eng.SV.int Go.IntKind.i64 n3), (Go.Eng.SV.str s9)]) [(Option.some (Go.Eng.HE.mk Bool.false (Go.Eng.HB.rows (Go.Sa.B.iKeySlot l))))])
  | _, _ => none
theorem o_spec_OpenVolume_w_ok (N : Nat) : FnOk E 35 (o_spec_OpenVolume_w N) := by
  intro R args H K r h
  unfold o_spec_OpenVolume_w at h
  dsimp only at h
  split at h
  · exact fnB_ok (ids := [0]) (top := [0]) ok (O_spec_OpenVolume_w_ok N) (jn_ok _ _ _) Go.Proofs.Try.func35 (by kernel_rfl) (IT := IT_spec_OpenVolume_w_0 N) (sl := sl_spec_OpenVolume_w) (J := J_spec_OpenVolume_w) (K := K) (H := [(Option.some (Go.Eng.HE.mk Bool.false (Go.Eng.HB.rows (Go.Sa.B.iKeySlot _))))]) (IT_spec_OpenVolume_w_0_ok N) (by kernel_rfl) rfl ((e_spec_OpenVolume_w N _ _ _ _ K).trans h)
  · cases h
/-! ### loop.example/g00038/spec.l15Slot -/
abbrev sl_spec_l15Slot : SlotT := []
abbrev J_spec_l15Slot : JT := jn [] [] []
noncomputable def O_spec_l15Slot (N : Nat) : Orc E := addFn 56 (o_spec_TagOf N) (addFn 41 (o_spec_Crypt N) (noFn))
theorem O_spec_l15Slot_ok (N : Nat) : OrcOk (O_spec_l15Slot N) := addFn_ok (o_spec_TagOf_ok N) (addFn_ok (o_spec_Crypt_ok N) (noFn_ok))
def g_spec_l15Slot (N : Nat) {R : Type} (s : ByteArray) (s1 : ByteArray) (n : Int) (k : ByteArray → ByteArray → Option R) : Option R :=
  (g_spec_Crypt N s1 n s fun s2 =>
  (g_spec_TagOf N s1 s2 fun s3 =>
  (k s2 s3)))
theorem e_spec_l15Slot (N : Nat) {R : Type} (s : ByteArray) (s1 : ByteArray) (n : Int) (K : AV → Hp E → Option R) :
    runFnI (E := E) (O_spec_l15Slot N) (noIt) sl_spec_l15Slot J_spec_l15Slot Go.Proofs.Try.f79 [(Go.Eng.AV.sc (Go.Eng.SV.str s)), (Go.Eng.AV.sc (Go.Eng.SV.str s1)), (Go.Eng.AV.sc (Go.Eng.SV.int Go.IntKind.i64 n))] [] K =
      g_spec_l15Slot N s s1 n (fun s4 s5 => K (Go.Eng.AV.agg [(Go.Eng.SV.int Go.IntKind.i64 n), (Go.Eng.SV.str s4), (Go.Eng.SV.str s5)]) []) := by kernel_rfl
def o_spec_l15Slot (N : Nat) {R : Type} (args : List AV) (H : Hp E) (K : AV → Hp E → Option R) : Option R :=
  match args, H with
  | [(Go.Eng.AV.sc (Go.Eng.SV.str s)), (Go.Eng.AV.sc (Go.Eng.SV.str s1)), (Go.Eng.AV.sc (Go.Eng.SV.int Go.IntKind.i64 n))], [] => g_spec_l15Slot N s s1 n (fun s4 s5 => K (Go.Eng.AV.agg [(Go.Eng.SV.int Go.IntKind.i64 n), (Go.Eng.SV.str s4), (Go.Eng.SV.str s5)]) [])
  | _, _ => none
theorem o_spec_l15Slot_ok (N : Nat) : FnOk E 79 (o_spec_l15Slot N) := by
  intro R args H K r h
  unfold o_spec_l15Slot at h
  dsimp only at h
  split at h
  · exact fnB_ok (ids := []) (top := []) ok (O_spec_l15Slot_ok N) (jn_ok _ _ _) Go.Proofs.Try.func79 (by kernel_rfl) (IT := noIt) (sl := sl_spec_l15Slot) (J := J_spec_l15Slot) (K := K) (H := []) (noIt_ok) (by kernel_rfl) rfl ((e_spec_l15Slot N _ _ _ K).trans h)
  · cases h
/-! ### loop.example/g00038/spec.AddPass -/
abbrev sl_spec_AddPass_w : SlotT := []
abbrev J_spec_AddPass_w : JT := jn [(1, [(17, .b)])] [] [(10, [3, 10])]
noncomputable def O_spec_AddPass_w (N : Nat) : Orc E := addFn 79 (o_spec_l15Slot N) (addFn 78 (o_spec_l01IsWord N) (addFn 35 (o_spec_OpenVolume_w N) (noFn)))
theorem O_spec_AddPass_w_ok (N : Nat) : OrcOk (O_spec_AddPass_w N) := addFn_ok (o_spec_l15Slot_ok N) (addFn_ok (o_spec_l01IsWord_ok N) (addFn_ok (o_spec_OpenVolume_w_ok N) (noFn_ok)))
def g_spec_AddPass_w (N : Nat) {R : Type} (b : Bool) (s : ByteArray) (s1 : ByteArray) (s2 : ByteArray) (n : Int) (l : List Go.Sa.KeySlot) (k : Int → Bool → ByteArray → (List Go.Sa.KeySlot) → Option R) : Option R :=
  (oK (cond (decide (((((ByteArray.size s1) : Nat) : Int) > (4096 : Int))))
    (some Bool.true)
    (some (decide (((((ByteArray.size s2) : Nat) : Int) > (4096 : Int)))))) fun j =>
  (cond j
  (k (2 : Int) Bool.true (ByteArray.mk (List.toArray [])) [])
  (g_spec_OpenVolume_w N b s s1 l fun n1 s3 =>
    (cond (n1 != (0 : Int))
    (k n1 Bool.true (ByteArray.mk (List.toArray [])) [])
    (g_spec_l01IsWord N n fun b1 =>
      (cond (!b1)
      (k (1 : Int) Bool.true (ByteArray.mk (List.toArray [])) [])
      (cond ((((List.length l) : Nat) : Int) == (4 : Int))
        (k (4 : Int) Bool.true (ByteArray.mk (List.toArray [])) [])
        (cond (Go.Eng.roomOk (0 + (List.length l)) 40)
          (g_spec_l15Slot N s3 s2 n fun s4 s5 =>
            (cond (Go.Eng.roomOk ((List.length ([] ++ l)) + (List.length [(Go.Sa.KeySlot.mk n s4 s5)])) 40)
            (k (0 : Int) (cond (Nat.beq (List.length [(Go.Sa.KeySlot.mk n s4 s5)]) 0) (cond (Nat.beq (List.length l) 0) Bool.false Bool.false) Bool.false) s (([] ++ l) ++ [(Go.Sa.KeySlot.mk n s4 s5)]))
            none))
          none))))))))
theorem e_spec_AddPass_w (N : Nat) {R : Type} (b : Bool) (s : ByteArray) (s1 : ByteArray) (s2 : ByteArray) (n : Int) (l : List Go.Sa.KeySlot) (K : AV → Hp E → Option R) :
    runFnI (E := E) (O_spec_AddPass_w N) (noIt) sl_spec_AddPass_w J_spec_AddPass_w Go.Proofs.Try.f52 [(Go.Eng.AV.agg [(Go.Eng.SV.slc 0 Option.none b), (Go.Eng.SV.str s)]), (Go.Eng.AV.sc (Go.Eng.SV.str s1)), (Go.Eng.AV.sc (Go.Eng.SV.str s2)), (Go.Eng.AV.sc (Go.Eng.SV.int Go.IntKind.i64 n))] [(Option.some (Go.Eng.HE.mk Bool.false (Go.Eng.HB.rows (Go.Sa.B.iKeySlot l))))] K =
      g_spec_AddPass_w N b s s1 s2 n l (fun n2 b2 s6 l1 => K (Go.Eng.AV.agg [(Go.Eng.SV.int Go.IntKind.i64 n2), (Go.Eng.SV.slc 1 Option.none b2), (Go.Eng.SV.str s6)]) [(Option.some (Go.Eng.HE.mk Bool.false (Go.Eng.HB.rows (Go.Sa.B.iKeySlot l)))), (Option.some (Go.Eng.HE.mk Bool.false (Go.Eng.HB.rows (Go.Sa.B.iKeySlot l1))))]) := by kernel_rfl
def o_spec_AddPass_w (N : Nat) {R : Type} (args : List AV) (H : Hp E) (K : AV → Hp E → Option R) : Option R :=
  match args, H with
  | [(Go.Eng.AV.agg [(Go.Eng.SV.slc 0 Option.none b), (Go.Eng.SV.str s)]), (Go.Eng.AV.sc (Go.Eng.SV.str s1)), (Go.Eng.AV.sc (Go.Eng.SV.str s2)), (Go.Eng.AV.sc (Go.Eng.SV.int Go.IntKind.i64 n))], [(Option.some (Go.Eng.HE.mk Bool.false (Go.Eng.HB.rows (Go.Sa.B.iKeySlot l))))] => g_spec_AddPass_w N b s s1 s2 n l (fun n2 b2 s6 l1 => K (Go.Eng.AV.agg [(Go.Eng.SV.int Go.IntKind.i64 n2), (Go.Eng.SV.slc 1 Option.none b2), (Go.Eng.SV.str s6)]) [(Option.some (Go.Eng.HE.mk Bool.false (Go.Eng.HB.rows (Go.Sa.B.iKeySlot l)))), (Option.some (Go.Eng.HE.mk Bool.false (Go.Eng.HB.rows (Go.Sa.B.iKeySlot l1))))])
  | _, _ => none
theorem o_spec_AddPass_w_ok (N : Nat) : FnOk E 52 (o_spec_AddPass_w N) := by
  intro R args H K r h
  unfold o_spec_AddPass_w at h
  dsimp only at h
  split at h
  · exact fnB_ok (ids := []) (top := []) ok (O_spec_AddPass_w_ok N) (jn_ok _ _ _) Go.Proofs.Try.func52 (by kernel_rfl) (IT := noIt) (sl := sl_spec_AddPass_w) (J := J_spec_AddPass_w) (K := K) (H := [(Option.some (Go.Eng.HE.mk Bool.false (Go.Eng.HB.rows (Go.Sa.B.iKeySlot _))))]) (noIt_ok) (by kernel_rfl) rfl ((e_spec_AddPass_w N _ _ _ _ _ _ K).trans h)
  · cases h
/-! ### loop.example/g00038/impl.ylongKey$1 -/
abbrev sl_impl_ylongKey_1 : SlotT := []
abbrev J_impl_ylongKey_1 : JT := jn [] [] []
noncomputable def O_impl_ylongKey_1 (N : Nat) : Orc E := noFn
theorem O_impl_ylongKey_1_ok (N : Nat) : OrcOk (O_impl_ylongKey_1 N) := noFn_ok
def g_impl_ylongKey_1 (N : Nat) {R : Type} (s : ByteArray) (k : Bool → Option R) : Option R :=
  (k (decide (((((ByteArray.size s) : Nat) : Int) > (4096 : Int)))))
theorem e_impl_ylongKey_1 (N : Nat) {R : Type} (s : ByteArray) (K : AV → Hp E → Option R) :
    runFnI (E := E) (O_impl_ylongKey_1 N) (noIt) sl_impl_ylongKey_1 J_impl_ylongKey_1 Go.Proofs.Try.f105 [(Go.Eng.AV.sc (Go.Eng.SV.str s))] [] K =
      g_impl_ylongKey_1 N s (fun b => K (Go.Eng.AV.sc (Go.Eng.SV.bool b)) []) := by kernel_rfl
def o_impl_ylongKey_1 (N : Nat) {R : Type} (args : List AV) (H : Hp E) (K : AV → Hp E → Option R) : Option R :=
  match args, H with
  | [(Go.Eng.AV.sc (Go.Eng.SV.str s))], [] => g_impl_ylongKey_1 N s (fun b => K (Go.Eng.AV.sc (Go.Eng.SV.bool b)) [])
  | _, _ => none
theorem o_impl_ylongKey_1_ok (N : Nat) : FnOk E 105 (o_impl_ylongKey_1 N) := by
  intro R args H K r h
  unfold o_impl_ylongKey_1 at h
  dsimp only at h
  split at h
  · exact fnB_ok (ids := []) (top := []) ok (O_impl_ylongKey_1_ok N) (jn_ok _ _ _) Go.Proofs.Try.func105 (by kernel_rfl) (IT := noIt) (sl := sl_impl_ylongKey_1) (J := J_impl_ylongKey_1) (K := K) (H := []) (noIt_ok) (by kernel_rfl) rfl ((e_impl_ylongKey_1 N _ K).trans h)
  · cases h
/-! ### slices.IndexFunc[[]string,string] -/
abbrev sl_slices_IndexFunc_string_Fimpl_ylongKey_1_w : SlotT := [(0, ([0, 1, 7, 8], [4]))]
abbrev J_slices_IndexFunc_string_Fimpl_ylongKey_1_w : JT := jn [] [] []
noncomputable def O_slices_IndexFunc_string_Fimpl_ylongKey_1_w (N : Nat) : Orc E := addFn 105 (o_impl_ylongKey_1 N) (noFn)
theorem O_slices_IndexFunc_string_Fimpl_ylongKey_1_w_ok (N : Nat) : OrcOk (O_slices_IndexFunc_string_Fimpl_ylongKey_1_w N) := addFn_ok (o_impl_ylongKey_1_ok N) (noFn_ok)
def s_slices_IndexFunc_string_Fimpl_ylongKey_1_w_0 (N : Nat) {R : Type} (b1 : Bool) (n : Int) (l1 : List ByteArray) (n1 : Int) (ag : Int → Option R)  (kR : Int → Option R) (kN : Option R) : Option R :=
  (cond (decide ((n1 < n)))
  (cond ((decide (((0 : Int) ≤ n1))) && (decide ((n1 < (((List.length l1) : Nat) : Int)))))
    (elemK l1 (Int.toNat n1) fun x =>
      (g_impl_ylongKey_1 N x fun b2 =>
      (cond b2
      (kR n1)
      (ag (Go.IntKind.wrap Go.IntKind.i64 (n1 + (1 : Int)))))))
    none)
  kN)
def l_slices_IndexFunc_string_Fimpl_ylongKey_1_w_0 (N : Nat) {R : Type} (b1 : Bool) (n : Int) (l1 : List ByteArray) (kR : Int → Option R) (kN : Option R) : Nat → Int → Option R
  | 0, _ => none
  | f + 1, n1 => s_slices_IndexFunc_string_Fimpl_ylongKey_1_w_0 N b1 n l1 n1 (fun n1 => l_slices_IndexFunc_string_Fimpl_ylongKey_1_w_0 N b1 n l1 kR kN f n1)  kR kN
def c_slices_IndexFunc_string_Fimpl_ylongKey_1_w_0 (N : Nat) {R : Type} (b1 : Bool) (n : Int) (l1 : List ByteArray) (n1 : Int) (kR : Int → Option R) (kN : Option R) : Option R := l_slices_IndexFunc_string_Fimpl_ylongKey_1_w_0 N b1 n l1 kR kN N n1
theorem se_slices_IndexFunc_string_Fimpl_ylongKey_1_w_0 (N : Nat) {R : Type} (b1 : Bool) (n : Int) (l1 : List ByteArray) (n1 : Int) (AG : List (Option AV) → Hp E → Option R) (KL : Ex → List (Option AV) → Hp E → Option R) :
    iterStep (E := E) (O_slices_IndexFunc_string_Fimpl_ylongKey_1_w N) (fun {R} => LI (noIt) 1 19 sl_slices_IndexFunc_string_Fimpl_ylongKey_1_w (R := R)) J_slices_IndexFunc_string_Fimpl_ylongKey_1_w 1 19 0 [0, 1, 7, 8] [4] (body Go.Proofs.Try.f123 0) AG KL [(Option.some (Go.Eng.AV.sc (Go.Eng.SV.slc 0 Option.none b1))), (Option.some (Go.Eng.AV.sc (Go.Eng.SV.fn 105 []))), (Option.some (Go.Eng.AV.sc (Go.Eng.SV.int Go.IntKind.i64 n))), (Option.some (Go.Eng.AV.sc (Go.Eng.SV.int Go.IntKind.i64 n1)))] [(Option.some (Go.Eng.HE.mk Bool.false (Go.Eng.HB.rows (Go.Sa.B.str l1))))] =
      s_slices_IndexFunc_string_Fimpl_ylongKey_1_w_0 N b1 n l1 n1 (fun n1 => AG [(Option.some (Go.Eng.AV.sc (Go.Eng.SV.slc 0 Option.none b1))), (Option.some (Go.Eng.AV.sc (Go.Eng.SV.fn 105 []))), (Option.some (Go.Eng.AV.sc (Go.Eng.SV.int Go.IntKind.i64 n))), (Option.some (Go.Eng.AV.sc (Go.Eng.SV.int Go.IntKind.i64 n1)))] [(Option.some (Go.Eng.HE.mk Bool.false (Go.Eng.HB.rows (Go.Sa.B.str l1))))])  (fun n4 => KL Go.Eng.Ex.ret [(Option.some (Go.Eng.AV.sc (Go.Eng.SV.int Go.IntKind.i64 n4)))] [(Option.some (Go.Eng.HE.mk Bool.false (Go.Eng.HB.rows (Go.Sa.B.str l1))))]) (KL Go.Eng.Ex.normal [Option.none] [(Option.some (Go.Eng.HE.mk Bool.false (Go.Eng.HB.rows (Go.Sa.B.str l1))))]) := by kernel_rfl
theorem le_slices_IndexFunc_string_Fimpl_ylongKey_1_w_0 (N : Nat) {R : Type} (b1 : Bool) (n : Int) (l1 : List ByteArray) (KL : Ex → List (Option AV) → Hp E → Option R) : ∀ (f : Nat), ∀ (n1 : Int), iterK (E := E) (O_slices_IndexFunc_string_Fimpl_ylongKey_1_w N) (fun {R} => LI (noIt) 1 19 sl_slices_IndexFunc_string_Fimpl_ylongKey_1_w (R := R)) J_slices_IndexFunc_string_Fimpl_ylongKey_1_w 1 19 0 [0, 1, 7, 8] [4] (body Go.Proofs.Try.f123 0) f [(Option.some (Go.Eng.AV.sc (Go.Eng.SV.slc 0 Option.none b1))), (Option.some (Go.Eng.AV.sc (Go.Eng.SV.fn 105 []))), (Option.some (Go.Eng.AV.sc (Go.Eng.SV.int Go.IntKind.i64 n))), (Option.some (Go.Eng.AV.sc (Go.Eng.SV.int Go.IntKind.i64 n1)))] [(Option.some (Go.Eng.HE.mk Bool.false (Go.Eng.HB.rows (Go.Sa.B.str l1))))] KL = l_slices_IndexFunc_string_Fimpl_ylongKey_1_w_0 N b1 n l1 (fun n4 => KL Go.Eng.Ex.ret [(Option.some (Go.Eng.AV.sc (Go.Eng.SV.int Go.IntKind.i64 n4)))] [(Option.some (Go.Eng.HE.mk Bool.false (Go.Eng.HB.rows (Go.Sa.B.str l1))))]) (KL Go.Eng.Ex.normal [Option.none] [(Option.some (Go.Eng.HE.mk Bool.false (Go.Eng.HB.rows (Go.Sa.B.str l1))))]) f n1 := by
  intro f
  induction f with
  | zero => intros; rfl
  | succ f ih =>
    intro n1
    rw [iterK_succ, se_slices_IndexFunc_string_Fimpl_ylongKey_1_w_0]
    exact (congrArg (fun z0 => s_slices_IndexFunc_string_Fimpl_ylongKey_1_w_0 N b1 n l1 n1 z0 (fun n4 => KL Go.Eng.Ex.ret [(Option.some (Go.Eng.AV.sc (Go.Eng.SV.int Go.IntKind.i64 n4)))] [(Option.some (Go.Eng.HE.mk Bool.false (Go.Eng.HB.rows (Go.Sa.B.str l1))))]) (KL Go.Eng.Ex.normal [Option.none] [(Option.some (Go.Eng.HE.mk Bool.false (Go.Eng.HB.rows (Go.Sa.B.str l1))))])) (funext fun n1 => ih n1))
def i_slices_IndexFunc_string_Fimpl_ylongKey_1_w_0 (N : Nat) {R : Type} (vs : List (Option AV)) (H : Hp E) (KL : Ex → List (Option AV) → Hp E → Option R) : Option R :=
  match vs, H with
  | [(Option.some (Go.Eng.AV.sc (Go.Eng.SV.slc 0 Option.none b1))), (Option.some (Go.Eng.AV.sc (Go.Eng.SV.fn 105 []))), (Option.some (Go.Eng.AV.sc (Go.Eng.SV.int Go.IntKind.i64 n))), (Option.some (Go.Eng.AV.sc (Go.Eng.SV.int Go.IntKind.i64 n1)))], [(Option.some (Go.Eng.HE.mk Bool.false (Go.Eng.HB.rows (Go.Sa.B.str l1))))] => c_slices_IndexFunc_string_Fimpl_ylongKey_1_w_0 N b1 n l1 n1 (fun n5 => KL Go.Eng.Ex.ret [(Option.some (Go.Eng.AV.sc (Go.Eng.SV.int Go.IntKind.i64 n5)))] [(Option.some (Go.Eng.HE.mk Bool.false (Go.Eng.HB.rows (Go.Sa.B.str l1))))]) (KL Go.Eng.Ex.normal [Option.none] [(Option.some (Go.Eng.HE.mk Bool.false (Go.Eng.HB.rows (Go.Sa.B.str l1))))])
  | _, _ => none
noncomputable def IT_slices_IndexFunc_string_Fimpl_ylongKey_1_w_0 (N : Nat) : Its E := addIt 0 (i_slices_IndexFunc_string_Fimpl_ylongKey_1_w_0 N) (noIt)
theorem IT_slices_IndexFunc_string_Fimpl_ylongKey_1_w_0_ok (N : Nat) : ItOk (IT_slices_IndexFunc_string_Fimpl_ylongKey_1_w_0 N) 1 19 sl_slices_IndexFunc_string_Fimpl_ylongKey_1_w (lsB Go.Proofs.Try.f123 [0]) :=
  addItB_ok (inner := []) ok (O_slices_IndexFunc_string_Fimpl_ylongKey_1_w_ok N) (jn_ok _ _ _) (noIt_ok) rfl (by kernel_rfl) rfl fun vs H KL r h => by
    unfold i_slices_IndexFunc_string_Fimpl_ylongKey_1_w_0 at h
    split at h
    · exact ⟨_, (le_slices_IndexFunc_string_Fimpl_ylongKey_1_w_0 N _ _ _ KL N _).trans h⟩
    · cases h
def g_slices_IndexFunc_string_Fimpl_ylongKey_1_w (N : Nat) {R : Type} (b : Bool) (l : List ByteArray) (k : Int → Option R) : Option R :=
  (c_slices_IndexFunc_string_Fimpl_ylongKey_1_w_0 N b (((List.length l) : Nat) : Int) l (0 : Int) (fun n2 =>
  (k n2)) (
  (k (-(1 : Int)))))
theorem e_slices_IndexFunc_string_Fimpl_ylongKey_1_w (N : Nat) {R : Type} (b : Bool) (l : List ByteArray) (K : AV → Hp E → Option R) :
    runFnI (E := E) (O_slices_IndexFunc_string_Fimpl_ylongKey_1_w N) (IT_slices_IndexFunc_string_Fimpl_ylongKey_1_w_0 N) sl_slices_IndexFunc_string_Fimpl_ylongKey_1_w J_slices_IndexFunc_string_Fimpl_ylongKey_1_w Go.Proofs.Try.f123 [(Go.Eng.AV.sc (Go.Eng.SV.slc 0 Option.none b)), (Go.Eng.AV.sc (Go.Eng.SV.fn 105 []))] [(Option.some (Go.Eng.HE.mk Bool.false (Go.Eng.HB.rows (Go.Sa.B.str l))))] K =
      g_slices_IndexFunc_string_Fimpl_ylongKey_1_w N b l (fun n3 => K (Go.Eng.AV.sc (Go.Eng.SV.int Go.IntKind.i64 n3)) [(Option.some (Go.Eng.HE.mk Bool.false (Go.Eng.HB.rows (Go.Sa.B.str l))))]) := by kernel_rfl
def o_slices_IndexFunc_string_Fimpl_ylongKey_1_w (N : Nat) {R : Type} (args : List AV) (H : Hp E) (K : AV → Hp E → Option R) : Option R :=
  match args, H with
  | [(Go.Eng.AV.sc (Go.Eng.SV.slc 0 Option.none b)), (Go.Eng.AV.sc (Go.Eng.SV.fn 105 []))], [(Option.some (Go.Eng.HE.mk Bool.false (Go.Eng.HB.rows (Go.Sa.B.str l))))] => g_slices_IndexFunc_string_Fimpl_ylongKey_1_w N b l (fun n3 => K (Go.Eng.AV.sc (Go.Eng.SV.int Go.IntKind.i64 n3)) [(Option.some (Go.Eng.HE.mk Bool.false (Go.Eng.HB.rows (Go.Sa.B.str l))))])
  | _, _ => none
theorem o_slices_IndexFunc_string_Fimpl_ylongKey_1_w_ok (N : Nat) : FnOk E 123 (o_slices_IndexFunc_string_Fimpl_ylongKey_1_w N) := by
  intro R args H K r h
  unfold o_slices_IndexFunc_string_Fimpl_ylongKey_1_w at h
  dsimp only at h
  split at h
  · exact fnB_ok (ids := [0]) (top := [0]) ok (O_slices_IndexFunc_string_Fimpl_ylongKey_1_w_ok N) (jn_ok _ _ _) Go.Proofs.Try.func123 (by kernel_rfl) (IT := IT_slices_IndexFunc_string_Fimpl_ylongKey_1_w_0 N) (sl := sl_slices_IndexFunc_string_Fimpl_ylongKey_1_w) (J := J_slices_IndexFunc_string_Fimpl_ylongKey_1_w) (K := K) (H := [(Option.some (Go.Eng.HE.mk Bool.false (Go.Eng.HB.rows (Go.Sa.B.str _))))]) (IT_slices_IndexFunc_string_Fimpl_ylongKey_1_w_0_ok N) (by kernel_rfl) rfl ((e_slices_IndexFunc_string_Fimpl_ylongKey_1_w N _ _ K).trans h)
  · cases h
/-! ### slices.ContainsFunc[[]string,string] -/
abbrev sl_slices_ContainsFunc_string_Fimpl_ylongKey_1_w : SlotT := []
abbrev J_slices_ContainsFunc_string_Fimpl_ylongKey_1_w : JT := jn [] [] []
noncomputable def O_slices_ContainsFunc_string_Fimpl_ylongKey_1_w (N : Nat) : Orc E := addFn 123 (o_slices_IndexFunc_string_Fimpl_ylongKey_1_w N) (noFn)
theorem O_slices_ContainsFunc_string_Fimpl_ylongKey_1_w_ok (N : Nat) : OrcOk (O_slices_ContainsFunc_string_Fimpl_ylongKey_1_w N) := addFn_ok (o_slices_IndexFunc_string_Fimpl_ylongKey_1_w_ok N) (noFn_ok)
def g_slices_ContainsFunc_string_Fimpl_ylongKey_1_w (N : Nat) {R : Type} (b : Bool) (l : List ByteArray) (k : Bool → Option R) : Option R :=
  (g_slices_IndexFunc_string_Fimpl_ylongKey_1_w N b l fun n =>
  (k (decide ((n ≥ (0 : Int))))))
theorem e_slices_ContainsFunc_string_Fimpl_ylongKey_1_w (N : Nat) {R : Type} (b : Bool) (l : List ByteArray) (K : AV → Hp E → Option R) :
    runFnI (E := E) (O_slices_ContainsFunc_string_Fimpl_ylongKey_1_w N) (noIt) sl_slices_ContainsFunc_string_Fimpl_ylongKey_1_w J_slices_ContainsFunc_string_Fimpl_ylongKey_1_w Go.Proofs.Try.f104 [(Go.Eng.AV.sc (Go.Eng.SV.slc 0 Option.none b)), (Go.Eng.AV.sc (Go.Eng.SV.fn 105 []))] [(Option.some (Go.Eng.HE.mk Bool.false (Go.Eng.HB.rows (Go.Sa.B.str l))))] K =
      g_slices_ContainsFunc_string_Fimpl_ylongKey_1_w N b l (fun b1 => K (Go.Eng.AV.sc (Go.Eng.SV.bool b1)) [(Option.some (Go.Eng.HE.mk Bool.false (Go.Eng.HB.rows (Go.Sa.B.str l))))]) := by kernel_rfl
def o_slices_ContainsFunc_string_Fimpl_ylongKey_1_w (N : Nat) {R : Type} (args : List AV) (H : Hp E) (K : AV → Hp E → Option R) : Option R :=
  match args, H with
  | [(Go.Eng.AV.sc (Go.Eng.SV.slc 0 Option.none b)), (Go.Eng.AV.sc (Go.Eng.SV.fn 105 []))], [(Option.some (Go.Eng.HE.mk Bool.false (Go.Eng.HB.rows (Go.Sa.B.str l))))] => g_slices_ContainsFunc_string_Fimpl_ylongKey_1_w N b l (fun b1 => K (Go.Eng.AV.sc (Go.Eng.SV.bool b1)) [(Option.some (Go.Eng.HE.mk Bool.false (Go.Eng.HB.rows (Go.Sa.B.str l))))])
  | _, _ => none
theorem o_slices_ContainsFunc_string_Fimpl_ylongKey_1_w_ok (N : Nat) : FnOk E 104 (o_slices_ContainsFunc_string_Fimpl_ylongKey_1_w N) := by
  intro R args H K r h
  unfold o_slices_ContainsFunc_string_Fimpl_ylongKey_1_w at h
  dsimp only at h
  split at h
  · exact fnB_ok (ids := []) (top := []) ok (O_slices_ContainsFunc_string_Fimpl_ylongKey_1_w_ok N) (jn_ok _ _ _) Go.Proofs.Try.func104 (by kernel_rfl) (IT := noIt) (sl := sl_slices_ContainsFunc_string_Fimpl_ylongKey_1_w) (J := J_slices_ContainsFunc_string_Fimpl_ylongKey_1_w) (K := K) (H := [(Option.some (Go.Eng.HE.mk Bool.false (Go.Eng.HB.rows (Go.Sa.B.str _))))]) (noIt_ok) (by kernel_rfl) rfl ((e_slices_ContainsFunc_string_Fimpl_ylongKey_1_w N _ _ K).trans h)
  · cases h
/-! ### loop.example/g00038/impl.ylongKey -/
abbrev sl_impl_ylongKey_w : SlotT := []
abbrev J_impl_ylongKey_w : JT := jn [] [] []
noncomputable def O_impl_ylongKey_w (N : Nat) : Orc E := addFn 104 (o_slices_ContainsFunc_string_Fimpl_ylongKey_1_w N) (noFn)
theorem O_impl_ylongKey_w_ok (N : Nat) : OrcOk (O_impl_ylongKey_w N) := addFn_ok (o_slices_ContainsFunc_string_Fimpl_ylongKey_1_w_ok N) (noFn_ok)
def g_impl_ylongKey_w (N : Nat) {R : Type} (b : Bool) (l : List ByteArray) (k : Bool → Option R) : Option R :=
  (g_slices_ContainsFunc_string_Fimpl_ylongKey_1_w N b l fun b1 =>
  (k b1))
theorem e_impl_ylongKey_w (N : Nat) {R : Type} (b : Bool) (l : List ByteArray) (K : AV → Hp E → Option R) :
    runFnI (E := E) (O_impl_ylongKey_w N) (noIt) sl_impl_ylongKey_w J_impl_ylongKey_w Go.Proofs.Try.f57 [(Go.Eng.AV.sc (Go.Eng.SV.slc 0 Option.none b))] [(Option.some (Go.Eng.HE.mk Bool.false (Go.Eng.HB.rows (Go.Sa.B.str l))))] K =
      g_impl_ylongKey_w N b l (fun b2 => K (Go.Eng.AV.sc (Go.Eng.SV.bool b2)) [(Option.some (Go.Eng.HE.mk Bool.false (Go.Eng.HB.rows (Go.Sa.B.str l))))]) := by kernel_rfl
def o_impl_ylongKey_w (N : Nat) {R : Type} (args : List AV) (H : Hp E) (K : AV → Hp E → Option R) : Option R :=
  match args, H with
  | [(Go.Eng.AV.sc (Go.Eng.SV.slc 0 Option.none b))], [(Option.some (Go.Eng.HE.mk Bool.false (Go.Eng.HB.rows (Go.Sa.B.str l))))] => g_impl_ylongKey_w N b l (fun b2 => K (Go.Eng.AV.sc (Go.Eng.SV.bool b2)) [(Option.some (Go.Eng.HE.mk Bool.false (Go.Eng.HB.rows (Go.Sa.B.str l))))])
  | _, _ => none
theorem o_impl_ylongKey_w_ok (N : Nat) : FnOk E 57 (o_impl_ylongKey_w N) := by
  intro R args H K r h
  unfold o_impl_ylongKey_w at h
  dsimp only at h
  split at h
  · exact fnB_ok (ids := []) (top := []) ok (O_impl_ylongKey_w_ok N) (jn_ok _ _ _) Go.Proofs.Try.func57 (by kernel_rfl) (IT := noIt) (sl := sl_impl_ylongKey_w) (J := J_impl_ylongKey_w) (K := K) (H := [(Option.some (Go.Eng.HE.mk Bool.false (Go.Eng.HB.rows (Go.Sa.B.str _))))]) (noIt_ok) (by kernel_rfl) rfl ((e_impl_ylongKey_w N _ _ K).trans h)
  · cases h
/-! ### loop.example/g00038/impl.yin -/
abbrev sl_impl_yin : SlotT := []
abbrev J_impl_yin : JT := jn [(1, [(6, .b)])] [] []
noncomputable def O_impl_yin (N : Nat) : Orc E := noFn
theorem O_impl_yin_ok (N : Nat) : OrcOk (O_impl_yin N) := noFn_ok
def g_impl_yin (N : Nat) {R : Type} (n : Int) (n1 : Int) (n2 : Int) (k : Bool → Option R) : Option R :=
  (oK (cond (decide ((n ≥ n1)))
    (some (decide ((n ≤ n2))))
    (some Bool.false)) fun j =>
  (k j))
theorem e_impl_yin (N : Nat) {R : Type} (n : Int) (n1 : Int) (n2 : Int) (K : AV → Hp E → Option R) :
    runFnI (E := E) (O_impl_yin N) (noIt) sl_impl_yin J_impl_yin Go.Proofs.Try.f77 [(Go.Eng.AV.sc (Go.Eng.SV.int Go.IntKind.i64 n)), (Go.Eng.AV.sc (Go.Eng.SV.int Go.IntKind.i64 n1)), (Go.Eng.AV.sc (Go.Eng.SV.int Go.IntKind.i64 n2))] [] K =
      g_impl_yin N n n1 n2 (fun b => K (Go.Eng.AV.sc (Go.Eng.SV.bool b)) []) := by kernel_rfl
def o_impl_yin (N : Nat) {R : Type} (args : List AV) (H : Hp E) (K : AV → Hp E → Option R) : Option R :=
  match args, H with
  | [(Go.Eng.AV.sc (Go.Eng.SV.int Go.IntKind.i64 n)), (Go.Eng.AV.sc (Go.Eng.SV.int Go.IntKind.i64 n1)), (Go.Eng.AV.sc (Go.Eng.SV.int Go.IntKind.i64 n2))], [] => g_impl_yin N n n1 n2 (fun b => K (Go.Eng.AV.sc (Go.Eng.SV.bool b)) [])
  | _, _ => none
theorem o_impl_yin_ok (N : Nat) : FnOk E 77 (o_impl_yin N) := by
  intro R args H K r h
  unfold o_impl_yin at h
  dsimp only at h
  split at h
  · exact fnB_ok (ids := []) (top := []) ok (O_impl_yin_ok N) (jn_ok _ _ _) Go.Proofs.Try.func77 (by kernel_rfl) (IT := noIt) (sl := sl_impl_yin) (J := J_impl_yin) (K := K) (H := []) (noIt_ok) (by kernel_rfl) rfl ((e_impl_yin N _ _ _ K).trans h)
  · cases h
/-! ### loop.example/g00038/impl.yisWord -/
abbrev sl_impl_yisWord : SlotT := []
abbrev J_impl_yisWord : JT := jn [(1, [(2, .b)])] [] []
noncomputable def O_impl_yisWord (N : Nat) : Orc E := noFn
theorem O_impl_yisWord_ok (N : Nat) : OrcOk (O_impl_yisWord N) := noFn_ok
def g_impl_yisWord (N : Nat) {R : Type} (n : Int) (k : Bool → Option R) : Option R :=
  (oK (cond (decide ((n ≥ (0 : Int))))
    (some (decide ((n < (4294967296 : Int)))))
    (some Bool.false)) fun j =>
  (k j))
theorem e_impl_yisWord (N : Nat) {R : Type} (n : Int) (K : AV → Hp E → Option R) :
    runFnI (E := E) (O_impl_yisWord N) (noIt) sl_impl_yisWord J_impl_yisWord Go.Proofs.Try.f80 [(Go.Eng.AV.sc (Go.Eng.SV.int Go.IntKind.i64 n))] [] K =
      g_impl_yisWord N n (fun b => K (Go.Eng.AV.sc (Go.Eng.SV.bool b)) []) := by kernel_rfl
def o_impl_yisWord (N : Nat) {R : Type} (args : List AV) (H : Hp E) (K : AV → Hp E → Option R) : Option R :=
  match args, H with
  | [(Go.Eng.AV.sc (Go.Eng.SV.int Go.IntKind.i64 n))], [] => g_impl_yisWord N n (fun b => K (Go.Eng.AV.sc (Go.Eng.SV.bool b)) [])
  | _, _ => none
theorem o_impl_yisWord_ok (N : Nat) : FnOk E 80 (o_impl_yisWord N) := by
  intro R args H K r h
  unfold o_impl_yisWord at h
  dsimp only at h
  split at h
  · exact fnB_ok (ids := []) (top := []) ok (O_impl_yisWord_ok N) (jn_ok _ _ _) Go.Proofs.Try.func80 (by kernel_rfl) (IT := noIt) (sl := sl_impl_yisWord) (J := J_impl_yisWord) (K := K) (H := []) (noIt_ok) (by kernel_rfl) rfl ((e_impl_yisWord N _ K).trans h)
  · cases h
/-! ### loop.example/g00038/impl.VolumeFault$1 -/
abbrev sl_impl_VolumeFault_1 : SlotT := []
abbrev J_impl_VolumeFault_1 : JT := jn [(1, [(2, .b)])] [] []
noncomputable def O_impl_VolumeFault_1 (N : Nat) : Orc E := addFn 80 (o_impl_yisWord N) (noFn)
theorem O_impl_VolumeFault_1_ok (N : Nat) : OrcOk (O_impl_VolumeFault_1 N) := addFn_ok (o_impl_yisWord_ok N) (noFn_ok)
def g_impl_VolumeFault_1 (N : Nat) {R : Type} (n : Int) (s : ByteArray) (s1 : ByteArray) (k : Bool → Option R) : Option R :=
  (oK (g_impl_yisWord N n fun b =>
    (cond (!b)
    (some Bool.true)
    (cond ((((ByteArray.size s) : Nat) : Int) != (16 : Int))
      (some Bool.true)
      (some ((((ByteArray.size s1) : Nat) : Int) != (8 : Int)))))) fun j =>
  (k j))
theorem e_impl_VolumeFault_1 (N : Nat) {R : Type} (n : Int) (s : ByteArray) (s1 : ByteArray) (K : AV → Hp E → Option R) :
    runFnI (E := E) (O_impl_VolumeFault_1 N) (noIt) sl_impl_VolumeFault_1 J_impl_VolumeFault_1 Go.Proofs.Try.f118 [(Go.Eng.AV.agg [(Go.Eng.SV.int Go.IntKind.i64 n), (Go.Eng.SV.str s), (Go.Eng.SV.str s1)])] [] K =
      g_impl_VolumeFault_1 N n s s1 (fun b1 => K (Go.Eng.AV.sc (Go.Eng.SV.bool b1)) []) := by kernel_rfl
def o_impl_VolumeFault_1 (N : Nat) {R : Type} (args : List AV) (H : Hp E) (K : AV → Hp E → Option R) : Option R :=
  match args, H with
  | [(Go.Eng.AV.agg [(Go.Eng.SV.int Go.IntKind.i64 n), (Go.Eng.SV.str s), (Go.Eng.SV.str s1)])], [] => g_impl_VolumeFault_1 N n s s1 (fun b1 => K (Go.Eng.AV.sc (Go.Eng.SV.bool b1)) [])
  | _, _ => none
theorem o_impl_VolumeFault_1_ok (N : Nat) : FnOk E 118 (o_impl_VolumeFault_1 N) := by
  intro R args H K r h
  unfold o_impl_VolumeFault_1 at h
  dsimp only at h
  split at h
  · exact fnB_ok (ids := []) (top := []) ok (O_impl_VolumeFault_1_ok N) (jn_ok _ _ _) Go.Proofs.Try.func118 (by kernel_rfl) (IT := noIt) (sl := sl_impl_VolumeFault_1) (J := J_impl_VolumeFault_1) (K := K) (H := []) (noIt_ok) (by kernel_rfl) rfl ((e_impl_VolumeFault_1 N _ _ _ K).trans h)
  · cases h
/-! ### slices.IndexFunc[[]loop.example/g00038/impl.KeySlot,loop.example/g00038/impl.KeySlot] -/
abbrev sl_slices_IndexFunc_KeySlot_Fimpl_VolumeFault_1_r : SlotT := [(0, ([0, 1, 7, 8], [4]))]
abbrev J_slices_IndexFunc_KeySlot_Fimpl_VolumeFault_1_r : JT := jn [] [] []
noncomputable def O_slices_IndexFunc_KeySlot_Fimpl_VolumeFault_1_r (N : Nat) : Orc E := addFn 118 (o_impl_VolumeFault_1 N) (noFn)
theorem O_slices_IndexFunc_KeySlot_Fimpl_VolumeFault_1_r_ok (N : Nat) : OrcOk (O_slices_IndexFunc_KeySlot_Fimpl_VolumeFault_1_r N) := addFn_ok (o_impl_VolumeFault_1_ok N) (noFn_ok)
def s_slices_IndexFunc_KeySlot_Fimpl_VolumeFault_1_r_0 (N : Nat) {R : Type} (b1 : Bool) (n : Int) (l1 : List Go.Sa.KeySlot) (n1 : Int) (ag : Int → Option R)  (kR : Int → Option R) (kN : Option R) : Option R :=
  (cond (decide ((n1 < n)))
  (cond ((decide (((0 : Int) ≤ n1))) && (decide ((n1 < (((List.length l1) : Nat) : Int)))))
    (elemK l1 (Int.toNat n1) fun x =>
      (g_impl_VolumeFault_1 N (Go.Sa.KeySlot.fSalt x) (Go.Sa.KeySlot.fKey x) (Go.Sa.KeySlot.fTag x) fun b2 =>
      (cond b2
      (kR n1)
      (ag (Go.IntKind.wrap Go.IntKind.i64 (n1 + (1 : Int)))))))
    none)
  kN)
def l_slices_IndexFunc_KeySlot_Fimpl_VolumeFault_1_r_0 (N : Nat) {R : Type} (b1 : Bool) (n : Int) (l1 : List Go.Sa.KeySlot) (kR : Int → Option R) (kN : Option R) : Nat → Int → Option R
  | 0, _ => none
  | f + 1, n1 => s_slices_IndexFunc_KeySlot_Fimpl_VolumeFault_1_r_0 N b1 n l1 n1 (fun n1 => l_slices_IndexFunc_KeySlot_Fimpl_VolumeFault_1_r_0 N b1 n l1 kR kN f n1)  kR kN
def c_slices_IndexFunc_KeySlot_Fimpl_VolumeFault_1_r_0 (N : Nat) {R : Type} (b1 : Bool) (n : Int) (l1 : List Go.Sa.KeySlot) (n1 : Int) (kR : Int → Option R) (kN : Option R) : Option R := l_slices_IndexFunc_KeySlot_Fimpl_VolumeFault_1_r_0 N b1 n l1 kR kN N n1
theorem se_slices_IndexFunc_KeySlot_Fimpl_VolumeFault_1_r_0 (N : Nat) {R : Type} (b1 : Bool) (n : Int) (l1 : List Go.Sa.KeySlot) (n1 : Int) (AG : List (Option AV) → Hp E → Option R) (KL : Ex → List (Option AV) → Hp E → Option R) :
    iterStep (E := E) (O_slices_IndexFunc_KeySlot_Fimpl_VolumeFault_1_r N) (fun {R} => LI (noIt) 1 19 sl_slices_IndexFunc_KeySlot_Fimpl_VolumeFault_1_r (R := R)) J_slices_IndexFunc_KeySlot_Fimpl_VolumeFault_1_r 1 19 0 [0, 1, 7, 8] [4] (body Go.Proofs.Try.f126 0) AG KL [(Option.some (Go.Eng.AV.sc (Go.Eng.SV.slc 0 Option.none b1))), (Option.some (Go.Eng.AV.sc (Go.Eng.SV.fn 118 []))), (Option.some (Go.Eng.AV.sc (Go.Eng.SV.int Go.IntKind.i64 n))), (Option.some (Go.Eng.AV.sc (Go.Eng.SV.int Go.IntKind.i64 n1)))] [(Option.some (Go.Eng.HE.mk Bool.true (Go.Eng.HB.rows (Go.Sa.B.iKeySlot l1))))] =
      s_slices_IndexFunc_KeySlot_Fimpl_VolumeFault_1_r_0 N b1 n l1 n1 (fun n1 => AG [(Option.some (Go.Eng.AV.sc (Go.Eng.SV.slc 0 Option.none b1))), (Option.some (Go.Eng.AV.sc (Go.Eng.SV.fn 118 []))), (Option.some (Go.Eng.AV.sc (Go.Eng.SV.int Go.IntKind.i64 n))), (Option.some (Go.Eng.AV.sc (Go.Eng.SV.int Go.IntKind.i64 n1)))] [(Option.some (Go.Eng.HE.mk Bool.true (Go.Eng.HB.rows (Go.Sa.B.iKeySlot l1))))])  (fun n4 => KL Go.Eng.Ex.ret [(Option.some (Go.Eng.AV.sc (Go.Eng.SV.int Go.IntKind.i64 n4)))] [(Option.some (Go.Eng.HE.mk Bool.true (Go.Eng.HB.rows (Go.Sa.B.iKeySlot l1))))]) (KL Go.Eng.Ex.normal [Option.none] [(Option.some (Go.Eng.HE.mk Bool.true (Go.Eng.HB.rows (Go.Sa.B.iKeySlot l1))))]) := by kernel_rfl
theorem le_slices_IndexFunc_KeySlot_Fimpl_VolumeFault_1_r_0 (N : Nat) {R : Type} (b1 : Bool) (n : Int) (l1 : List Go.Sa.KeySlot) (KL : Ex → List (Option AV) → Hp E → Option R) : ∀ (f : Nat), ∀ (n1 : Int), iterK (E := E) (O_slices_IndexFunc_KeySlot_Fimpl_VolumeFault_1_r N) (fun {R} => LI (noIt) 1 19 sl_slices_IndexFunc_KeySlot_Fimpl_VolumeFault_1_r (R := R)) J_slices_IndexFunc_KeySlot_Fimpl_VolumeFault_1_r 1 19 0 [0, 1, 7, 8] [4] (body Go.Proofs.Try.f126 0) f [(Option.some (Go.Eng.AV.sc (Go.Eng.SV.slc 0 Option.none b1))), (Option.some (Go.Eng.AV.sc (Go.Eng.SV.fn 118 []))), (Option.some (Go.Eng.AV.sc (Go.Eng.SV.int Go.IntKind.i64 n))), (Option.some (Go.Eng.AV.sc (Go.Eng.SV.int Go.IntKind.i64 n1)))] [(Option.some (Go.Eng.HE.mk Bool.true (Go.Eng.HB.rows (Go.Sa.B.iKeySlot l1))))] KL = l_slices_IndexFunc_KeySlot_Fimpl_VolumeFault_1_r_0 N b1 n l1 (fun n4 => KL Go.Eng.Ex.ret [(Option.some (Go.Eng.AV.sc (Go.Eng.SV.int Go.IntKind.i64 n4)))] [(Option.some (Go.Eng.HE.mk Bool.true (Go.Eng.HB.rows (Go.Sa.B.iKeySlot l1))))]) (KL Go.Eng.Ex.normal [Option.none] [(Option.some (Go.Eng.HE.mk Bool.true (Go.Eng.HB.rows (Go.Sa.B.iKeySlot l1))))]) f n1 := by
  intro f
  induction f with
  | zero => intros; rfl
  | succ f ih =>
    intro n1
    rw [iterK_succ, se_slices_IndexFunc_KeySlot_Fimpl_VolumeFault_1_r_0]
    exact (congrArg (fun z0 => s_slices_IndexFunc_KeySlot_Fimpl_VolumeFault_1_r_0 N b1 n l1 n1 z0 (fun n4 => KL Go.Eng.Ex.ret [(Option.some (Go.Eng.AV.sc (Go.Eng.SV.int Go.IntKind.i64 n4)))] [(Option.some (Go.Eng.HE.mk Bool.true (Go.Eng.HB.rows (Go.Sa.B.iKeySlot l1))))]) (KL Go.Eng.Ex.normal [Option.none] [(Option.some (Go.Eng.HE.mk Bool.true (Go.Eng.HB.rows (Go.Sa.B.iKeySlot l1))))])) (funext fun n1 => ih n1))
def i_slices_IndexFunc_KeySlot_Fimpl_VolumeFault_1_r_0 (N : Nat) {R : Type} (vs : List (Option AV)) (H : Hp E) (KL : Ex → List (Option AV) → Hp E → Option R) : Option R :=
  match vs, H with
  | [(Option.some (Go.Eng.AV.sc (Go.Eng.SV.slc 0 Option.none b1))), (Option.some (Go.Eng.AV.sc (Go.Eng.SV.fn 118 []))), (Option.some (Go.Eng.AV.sc (Go.Eng.SV.int Go.IntKind.i64 n))), (Option.some (Go.Eng.AV.sc (Go.Eng.SV.int Go.IntKind.i64 n1)))], [(Option.some (Go.Eng.HE.mk Bool.true (Go.Eng.HB.rows (Go.Sa.B.iKeySlot l1))))] => c_slices_IndexFunc_KeySlot_Fimpl_VolumeFault_1_r_0 N b1 n l1 n1 (fun n5 => KL Go.Eng.Ex.ret [(Option.some (Go.Eng.AV.sc (Go.Eng.SV.int Go.IntKind.i64 n5)))] [(Option.some (Go.Eng.HE.mk Bool.true (Go.Eng.HB.rows (Go.Sa.B.iKeySlot l1))))]) (KL Go.Eng.Ex.normal [Option.none] [(Option.some (Go.Eng.HE.mk Bool.true (Go.Eng.HB.rows (Go.Sa.B.iKeySlot l1))))])
  | _, _ => none
noncomputable def IT_slices_IndexFunc_KeySlot_Fimpl_VolumeFault_1_r_0 (N : Nat) : Its E := addIt 0 (i_slices_IndexFunc_KeySlot_Fimpl_VolumeFault_1_r_0 N) (noIt)
theorem IT_slices_IndexFunc_KeySlot_Fimpl_VolumeFault_1_r_0_ok (N : Nat) : ItOk (IT_slices_IndexFunc_KeySlot_Fimpl_VolumeFault_1_r_0 N) 1 19 sl_slices_IndexFunc_KeySlot_Fimpl_VolumeFault_1_r (lsB Go.Proofs.Try.f126 [0]) :=
  addItB_ok (inner := []) ok (O_slices_IndexFunc_KeySlot_Fimpl_VolumeFault_1_r_ok N) (jn_ok _ _ _) (noIt_ok) rfl (by kernel_rfl) rfl fun vs H KL r h => by
    unfold i_slices_IndexFunc_KeySlot_Fimpl_VolumeFault_1_r_0 at h
    split at h
    · exact ⟨_, (le_slices_IndexFunc_KeySlot_Fimpl_VolumeFault_1_r_0 N _ _ _ KL N _).trans h⟩
    · cases h
def g_slices_IndexFunc_KeySlot_Fimpl_VolumeFault_1_r (N : Nat) {R : Type} (b : Bool) (l : List Go.Sa.KeySlot) (k : Int → Option R) : Option R :=
  (c_slices_IndexFunc_KeySlot_Fimpl_VolumeFault_1_r_0 N b (((List.length l) : Nat) : Int) l (0 : Int) (fun n2 =>
  (k n2)) (
  (k (-(1 : Int)))))
theorem e_slices_IndexFunc_KeySlot_Fimpl_VolumeFault_1_r (N : Nat) {R : Type} (b : Bool) (l : List Go.Sa.KeySlot) (K : AV → Hp E → Option R) :
    runFnI (E := E) (O_slices_IndexFunc_KeySlot_Fimpl_VolumeFault_1_r N) (IT_slices_IndexFunc_KeySlot_Fimpl_VolumeFault_1_r_0 N) sl_slices_IndexFunc_KeySlot_Fimpl_VolumeFault_1_r J_slices_IndexFunc_KeySlot_Fimpl_VolumeFault_1_r Go.Proofs.Try.f126 [(Go.Eng.AV.sc (Go.Eng.SV.slc 0 Option.none b)), (Go.Eng.AV.sc (Go.Eng.SV.fn 118 []))] [(Option.some (Go.Eng.HE.mk Bool.true (Go.Eng.HB.rows (Go.Sa.B.iKeySlot l))))] K =
      g_slices_IndexFunc_KeySlot_Fimpl_VolumeFault_1_r N b l (fun n3 => K (Go.Eng.AV.sc (Go.Eng.SV.int Go.IntKind.i64 n3)) [(Option.some (Go.Eng.HE.mk Bool.true (Go.Eng.HB.rows (Go.Sa.B.iKeySlot l))))]) := by kernel_rfl
def o_slices_IndexFunc_KeySlot_Fimpl_VolumeFault_1_r (N : Nat) {R : Type} (args : List AV) (H : Hp E) (K : AV → Hp E → Option R) : Option R :=
  match args, H with
  | [(Go.Eng.AV.sc (Go.Eng.SV.slc 0 Option.none b)), (Go.Eng.AV.sc (Go.Eng.SV.fn 118 []))], [(Option.some (Go.Eng.HE.mk Bool.true (Go.Eng.HB.rows (Go.Sa.B.iKeySlot l))))] => g_slices_IndexFunc_KeySlot_Fimpl_VolumeFault_1_r N b l (fun n3 => K (Go.Eng.AV.sc (Go.Eng.SV.int Go.IntKind.i64 n3)) [(Option.some (Go.Eng.HE.mk Bool.true (Go.Eng.HB.rows (Go.Sa.B.iKeySlot l))))])
  | _, _ => none
theorem o_slices_IndexFunc_KeySlot_Fimpl_VolumeFault_1_r_ok (N : Nat) : FnOk E 126 (o_slices_IndexFunc_KeySlot_Fimpl_VolumeFault_1_r N) := by
  intro R args H K r h
  unfold o_slices_IndexFunc_KeySlot_Fimpl_VolumeFault_1_r at h
  dsimp only at h
  split at h
  · exact fnB_ok (ids := [0]) (top := [0]) ok (O_slices_IndexFunc_KeySlot_Fimpl_VolumeFault_1_r_ok N) (jn_ok _ _ _) Go.Proofs.Try.func126 (by kernel_rfl) (IT := IT_slices_IndexFunc_KeySlot_Fimpl_VolumeFault_1_r_0 N) (sl := sl_slices_IndexFunc_KeySlot_Fimpl_VolumeFault_1_r) (J := J_slices_IndexFunc_KeySlot_Fimpl_VolumeFault_1_r) (K := K) (H := [(Option.some (Go.Eng.HE.mk Bool.true (Go.Eng.HB.rows (Go.Sa.B.iKeySlot _))))]) (IT_slices_IndexFunc_KeySlot_Fimpl_VolumeFault_1_r_0_ok N) (by kernel_rfl) rfl ((e_slices_IndexFunc_KeySlot_Fimpl_VolumeFault_1_r N _ _ K).trans h)
  · cases h
/-! ### slices.ContainsFunc[[]loop.example/g00038/impl.KeySlot,loop.example/g00038/impl.KeySlot] -/
abbrev sl_slices_ContainsFunc_KeySlot_Fimpl_VolumeFault_1_r : SlotT := []
abbrev J_slices_ContainsFunc_KeySlot_Fimpl_VolumeFault_1_r : JT := jn [] [] []
noncomputable def O_slices_ContainsFunc_KeySlot_Fimpl_VolumeFault_1_r (N : Nat) : Orc E := addFn 126 (o_slices_IndexFunc_KeySlot_Fimpl_VolumeFault_1_r N) (noFn)
theorem O_slices_ContainsFunc_KeySlot_Fimpl_VolumeFault_1_r_ok (N : Nat) : OrcOk (O_slices_ContainsFunc_KeySlot_Fimpl_VolumeFault_1_r N) := addFn_ok (o_slices_IndexFunc_KeySlot_Fimpl_VolumeFault_1_r_ok N) (noFn_ok)
def g_slices_ContainsFunc_KeySlot_Fimpl_VolumeFault_1_r (N : Nat) {R : Type} (b : Bool) (l : List Go.Sa.KeySlot) (k : Bool → Option R) : Option R :=
  (g_slices_IndexFunc_KeySlot_Fimpl_VolumeFault_1_r N b l fun n =>
  (k (decide ((n ≥ (0 : Int))))))
theorem e_slices_ContainsFunc_KeySlot_Fimpl_VolumeFault_1_r (N : Nat) {R : Type} (b : Bool) (l : List Go.Sa.KeySlot) (K : AV → Hp E → Option R) :
    runFnI (E := E) (O_slices_ContainsFunc_KeySlot_Fimpl_VolumeFault_1_r N) (noIt) sl_slices_ContainsFunc_KeySlot_Fimpl_VolumeFault_1_r J_slices_ContainsFunc_KeySlot_Fimpl_VolumeFault_1_r Go.Proofs.Try.f117 [(Go.Eng.AV.sc (Go.Eng.SV.slc 0 Option.none b)), (Go.Eng.AV.sc (Go.Eng.SV.fn 118 []))] [(Option.some (Go.Eng.HE.mk Bool.true (Go.Eng.HB.rows (Go.Sa.B.iKeySlot l))))] K =
      g_slices_ContainsFunc_KeySlot_Fimpl_VolumeFault_1_r N b l (fun b1 => K (Go.Eng.AV.sc (Go.Eng.SV.bool b1)) [(Option.some (Go.Eng.HE.mk Bool.true (Go.Eng.HB.rows (Go.Sa.B.iKeySlot l))))]) := by kernel_rfl
def o_slices_ContainsFunc_KeySlot_Fimpl_VolumeFault_1_r (N : Nat) {R : Type} (args : List AV) (H : Hp E) (K : AV → Hp E → Option R) : Option R :=
  match args, H with
  | [(Go.Eng.AV.sc (Go.Eng.SV.slc 0 Option.none b)), (Go.Eng.AV.sc (Go.Eng.SV.fn 118 []))], [(Option.some (Go.Eng.HE.mk Bool.true (Go.Eng.HB.rows (Go.Sa.B.iKeySlot l))))] => g_slices_ContainsFunc_KeySlot_Fimpl_VolumeFault_1_r N b l (fun b1 => K (Go.Eng.AV.sc (Go.Eng.SV.bool b1)) [(Option.some (Go.Eng.HE.mk Bool.true (Go.Eng.HB.rows (Go.Sa.B.iKeySlot l))))])
  | _, _ => none
theorem o_slices_ContainsFunc_KeySlot_Fimpl_VolumeFault_1_r_ok (N : Nat) : FnOk E 117 (o_slices_ContainsFunc_KeySlot_Fimpl_VolumeFault_1_r N) := by
  intro R args H K r h
  unfold o_slices_ContainsFunc_KeySlot_Fimpl_VolumeFault_1_r at h
  dsimp only at h
  split at h
  · exact fnB_ok (ids := []) (top := []) ok (O_slices_ContainsFunc_KeySlot_Fimpl_VolumeFault_1_r_ok N) (jn_ok _ _ _) Go.Proofs.Try.func117 (by kernel_rfl) (IT := noIt) (sl := sl_slices_ContainsFunc_KeySlot_Fimpl_VolumeFault_1_r) (J := J_slices_ContainsFunc_KeySlot_Fimpl_VolumeFault_1_r) (K := K) (H := [(Option.some (Go.Eng.HE.mk Bool.true (Go.Eng.HB.rows (Go.Sa.B.iKeySlot _))))]) (noIt_ok) (by kernel_rfl) rfl ((e_slices_ContainsFunc_KeySlot_Fimpl_VolumeFault_1_r N _ _ K).trans h)
  · cases h
/-! ### loop.example/g00038/impl.VolumeFault -/
abbrev sl_impl_VolumeFault_w : SlotT := []
abbrev J_impl_VolumeFault_w : JT := jn [(1, [(18, .b)])] [] []
noncomputable def O_impl_VolumeFault_w (N : Nat) : Orc E := addFn 117 (o_slices_ContainsFunc_KeySlot_Fimpl_VolumeFault_1_r N) (addFn 77 (o_impl_yin N) (noFn))
theorem O_impl_VolumeFault_w_ok (N : Nat) : OrcOk (O_impl_VolumeFault_w N) := addFn_ok (o_slices_ContainsFunc_KeySlot_Fimpl_VolumeFault_1_r_ok N) (addFn_ok (o_impl_yin_ok N) (noFn_ok))
def g_impl_VolumeFault_w (N : Nat) {R : Type} (b : Bool) (s : ByteArray) (l : List Go.Sa.KeySlot) (k : Int → Option R) : Option R :=
  (oK (g_impl_yin N (((List.length l) : Nat) : Int) (1 : Int) (4 : Int) fun b1 =>
    (cond (!b1)
    (some Bool.true)
    (cond ((((ByteArray.size s) : Nat) : Int) != (8 : Int))
      (some Bool.true)
      (g_slices_ContainsFunc_KeySlot_Fimpl_VolumeFault_1_r N b l fun b2 =>
        (some b2))))) fun j =>
  (cond j
  (k (1 : Int))
  (k (0 : Int))))
theorem e_impl_VolumeFault_w (N : Nat) {R : Type} (b : Bool) (s : ByteArray) (l : List Go.Sa.KeySlot) (K : AV → Hp E → Option R) :
    runFnI (E := E) (O_impl_VolumeFault_w N) (noIt) sl_impl_VolumeFault_w J_impl_VolumeFault_w Go.Proofs.Try.f86 [(Go.Eng.AV.agg [(Go.Eng.SV.slc 0 Option.none b), (Go.Eng.SV.str s)])] [(Option.some (Go.Eng.HE.mk Bool.false (Go.Eng.HB.rows (Go.Sa.B.iKeySlot l))))] K =
      g_impl_VolumeFault_w N b s l (fun n => K (Go.Eng.AV.sc (Go.Eng.SV.int Go.IntKind.i64 n)) [(Option.some (Go.Eng.HE.mk Bool.false (Go.Eng.HB.rows (Go.Sa.B.iKeySlot l))))]) := by kernel_rfl
def o_impl_VolumeFault_w (N : Nat) {R : Type} (args : List AV) (H : Hp E) (K : AV → Hp E → Option R) : Option R :=
  match args, H with
  | [(Go.Eng.AV.agg [(Go.Eng.SV.slc 0 Option.none b), (Go.Eng.SV.str s)])], [(Option.some (Go.Eng.HE.mk Bool.false (Go.Eng.HB.rows (Go.Sa.B.iKeySlot l))))] => g_impl_VolumeFault_w N b s l (fun n => K (Go.Eng.AV.sc (Go.Eng.SV.int Go.IntKind.i64 n)) [(Option.some (Go.Eng.HE.mk Bool.false (Go.Eng.HB.rows (Go.Sa.B.iKeySlot l))))])
  | _, _ => none
theorem o_impl_VolumeFault_w_ok (N : Nat) : FnOk E 86 (o_impl_VolumeFault_w N) := by
  intro R args H K r h
  unfold o_impl_VolumeFault_w at h
  dsimp only at h
  split at h
  · exact fnB_ok (ids := []) (top := []) ok (O_impl_VolumeFault_w_ok N) (jn_ok _ _ _) Go.Proofs.Try.func86 (by kernel_rfl) (IT := noIt) (sl := sl_impl_VolumeFault_w) (J := J_impl_VolumeFault_w) (K := K) (H := [(Option.some (Go.Eng.HE.mk Bool.false (Go.Eng.HB.rows (Go.Sa.B.iKeySlot _))))]) (noIt_ok) (by kernel_rfl) rfl ((e_impl_VolumeFault_w N _ _ _ K).trans h)
  · cases h
/-! ### loop.example/g00038/impl.ymod -/
abbrev sl_impl_ymod : SlotT := []
abbrev J_impl_ymod : JT := jn [] [(9, [(0, .i .i64)])] []
noncomputable def O_impl_ymod (N : Nat) : Orc E := noFn
theorem O_impl_ymod_ok (N : Nat) : OrcOk (O_impl_ymod N) := noFn_ok
def g_impl_ymod (N : Nat) {R : Type} (n : Int) (n1 : Int) (k : Int → Option R) : Option R :=
  (cond (n1 == (0 : Int))
  none
  (oK (cond (decide (((Int.tmod n n1) < (0 : Int))))
      (some (Go.IntKind.wrap Go.IntKind.i64 ((Int.tmod n n1) + n1)))
      (some (Int.tmod n n1))) fun j =>
    (k j)))
theorem e_impl_ymod (N : Nat) {R : Type} (n : Int) (n1 : Int) (K : AV → Hp E → Option R) :
    runFnI (E := E) (O_impl_ymod N) (noIt) sl_impl_ymod J_impl_ymod Go.Proofs.Try.f110 [(Go.Eng.AV.sc (Go.Eng.SV.int Go.IntKind.i64 n)), (Go.Eng.AV.sc (Go.Eng.SV.int Go.IntKind.i64 n1))] [] K =
      g_impl_ymod N n n1 (fun n2 => K (Go.Eng.AV.sc (Go.Eng.SV.int Go.IntKind.i64 n2)) []) := by kernel_rfl
def o_impl_ymod (N : Nat) {R : Type} (args : List AV) (H : Hp E) (K : AV → Hp E → Option R) : Option R :=
  match args, H with
  | [(Go.Eng.AV.sc (Go.Eng.SV.int Go.IntKind.i64 n)), (Go.Eng.AV.sc (Go.Eng.SV.int Go.IntKind.i64 n1))], [] => g_impl_ymod N n n1 (fun n2 => K (Go.Eng.AV.sc (Go.Eng.SV.int Go.IntKind.i64 n2)) [])
  | _, _ => none
theorem o_impl_ymod_ok (N : Nat) : FnOk E 110 (o_impl_ymod N) := by
  intro R args H K r h
  unfold o_impl_ymod at h
  dsimp only at h
  split at h
  · exact fnB_ok (ids := []) (top := []) ok (O_impl_ymod_ok N) (jn_ok _ _ _) Go.Proofs.Try.func110 (by kernel_rfl) (IT := noIt) (sl := sl_impl_ymod) (J := J_impl_ymod) (K := K) (H := []) (noIt_ok) (by kernel_rfl) rfl ((e_impl_ymod N _ _ K).trans h)
  · cases h
/-! ### loop.example/g00038/impl.ymix -/
abbrev sl_impl_ymix : SlotT := [(0, ([0, 5, 11, 12], [5]))]
abbrev J_impl_ymix : JT := jn [] [] []
noncomputable def O_impl_ymix (N : Nat) : Orc E := addFn 110 (o_impl_ymod N) (noFn)
theorem O_impl_ymix_ok (N : Nat) : OrcOk (O_impl_ymix N) := addFn_ok (o_impl_ymod_ok N) (noFn_ok)
def s_impl_ymix_0 (N : Nat) {R : Type} (s1 : ByteArray) (n3 : Int) (n2 : Int) (n4 : Int) (ag : Int → Int → Option R)  (kN : Int → Option R) : Option R :=
  (cond (decide ((n4 < n3)))
  (cond ((decide (((0 : Int) ≤ n4))) && (decide ((n4 < (((ByteArray.size s1) : Nat) : Int)))))
    (ag (Int.tmod (Go.IntKind.wrap Go.IntKind.i64 ((Go.IntKind.wrap Go.IntKind.i64 ((Go.IntKind.wrap Go.IntKind.i64 (n2 * (65599 : Int))) + (Go.IntKind.wrap Go.IntKind.i64 (Go.Eng.bt s1 (Int.toNat n4))))) + (1 : Int))) (2147483629 : Int)) (Go.IntKind.wrap Go.IntKind.i64 (n4 + (1 : Int))))
    none)
  (kN n2))
def l_impl_ymix_0 (N : Nat) {R : Type} (s1 : ByteArray) (n3 : Int) (kN : Int → Option R) : Nat → Int → Int → Option R
  | 0, _, _ => none
  | f + 1, n2, n4 => s_impl_ymix_0 N s1 n3 n2 n4 (fun n2 n4 => l_impl_ymix_0 N s1 n3 kN f n2 n4)  kN
def c_impl_ymix_0 (N : Nat) {R : Type} (s1 : ByteArray) (n3 : Int) (n2 : Int) (n4 : Int) (kN : Int → Option R) : Option R := l_impl_ymix_0 N s1 n3 kN N n2 n4
theorem se_impl_ymix_0 (N : Nat) {R : Type} (s1 : ByteArray) (n3 : Int) (n2 : Int) (n4 : Int) (AG : List (Option AV) → Hp E → Option R) (KL : Ex → List (Option AV) → Hp E → Option R) :
    iterStep (E := E) (O_impl_ymix N) (fun {R} => LI (noIt) 0 29 sl_impl_ymix (R := R)) J_impl_ymix 0 29 0 [0, 5, 11, 12] [5] (body Go.Proofs.Try.f67 0) AG KL [(Option.some (Go.Eng.AV.sc (Go.Eng.SV.str s1))), (Option.some (Go.Eng.AV.sc (Go.Eng.SV.int Go.IntKind.i64 n2))), (Option.some (Go.Eng.AV.sc (Go.Eng.SV.int Go.IntKind.i64 n3))), (Option.some (Go.Eng.AV.sc (Go.Eng.SV.int Go.IntKind.i64 n4)))] [] =
      s_impl_ymix_0 N s1 n3 n2 n4 (fun n2 n4 => AG [(Option.some (Go.Eng.AV.sc (Go.Eng.SV.str s1))), (Option.some (Go.Eng.AV.sc (Go.Eng.SV.int Go.IntKind.i64 n2))), (Option.some (Go.Eng.AV.sc (Go.Eng.SV.int Go.IntKind.i64 n3))), (Option.some (Go.Eng.AV.sc (Go.Eng.SV.int Go.IntKind.i64 n4)))] [])  (fun n7 => KL Go.Eng.Ex.normal [(Option.some (Go.Eng.AV.sc (Go.Eng.SV.int Go.IntKind.i64 n7)))] []) := by kernel_rfl
theorem le_impl_ymix_0 (N : Nat) {R : Type} (s1 : ByteArray) (n3 : Int) (KL : Ex → List (Option AV) → Hp E → Option R) : ∀ (f : Nat), ∀ (n2 : Int) (n4 : Int), iterK (E := E) (O_impl_ymix N) (fun {R} => LI (noIt) 0 29 sl_impl_ymix (R := R)) J_impl_ymix 0 29 0 [0, 5, 11, 12] [5] (body Go.Proofs.Try.f67 0) f [(Option.some (Go.Eng.AV.sc (Go.Eng.SV.str s1))), (Option.some (Go.Eng.AV.sc (Go.Eng.SV.int Go.IntKind.i64 n2))), (Option.some (Go.Eng.AV.sc (Go.Eng.SV.int Go.IntKind.i64 n3))), (Option.some (Go.Eng.AV.sc (Go.Eng.SV.int Go.IntKind.i64 n4)))] [] KL = l_impl_ymix_0 N s1 n3 (fun n7 => KL Go.Eng.Ex.normal [(Option.some (Go.Eng.AV.sc (Go.Eng.SV.int Go.IntKind.i64 n7)))] []) f n2 n4 := by
  intro f
  induction f with
  | zero => intros; rfl
  | succ f ih =>
    intro n2 n4
    rw [iterK_succ, se_impl_ymix_0]
    exact (congrArg (fun z0 => s_impl_ymix_0 N s1 n3 n2 n4 z0 (fun n7 => KL Go.Eng.Ex.normal [(Option.some (Go.Eng.AV.sc (Go.Eng.SV.int Go.IntKind.i64 n7)))] [])) (funext fun n2 => funext fun n4 => ih n2 n4))
def i_impl_ymix_0 (N : Nat) {R : Type} (vs : List (Option AV)) (H : Hp E) (KL : Ex → List (Option AV) → Hp E → Option R) : Option R :=
  match vs, H with
  | [(Option.some (Go.Eng.AV.sc (Go.Eng.SV.str s1))), (Option.some (Go.Eng.AV.sc (Go.Eng.SV.int Go.IntKind.i64 n2))), (Option.some (Go.Eng.AV.sc (Go.Eng.SV.int Go.IntKind.i64 n3))), (Option.some (Go.Eng.AV.sc (Go.Eng.SV.int Go.IntKind.i64 n4)))], [] => c_impl_ymix_0 N s1 n3 n2 n4 (fun n8 => KL Go.Eng.Ex.normal [(Option.some (Go.Eng.AV.sc (Go.Eng.SV.int Go.IntKind.i64 n8)))] [])
  | _, _ => none
noncomputable def IT_impl_ymix_0 (N : Nat) : Its E := addIt 0 (i_impl_ymix_0 N) (noIt)
theorem IT_impl_ymix_0_ok (N : Nat) : ItOk (IT_impl_ymix_0 N) 0 29 sl_impl_ymix (lsB Go.Proofs.Try.f67 [0]) :=
  addItB_ok (inner := []) ok (O_impl_ymix_ok N) (jn_ok _ _ _) (noIt_ok) rfl (by kernel_rfl) rfl fun vs H KL r h => by
    unfold i_impl_ymix_0 at h
    split at h
    · exact ⟨_, (le_impl_ymix_0 N _ _ KL N _ _).trans h⟩
    · cases h
def g_impl_ymix (N : Nat) {R : Type} (s : ByteArray) (n : Int) (k : Int → Option R) : Option R :=
  (g_impl_ymod N n (2147483629 : Int) fun n1 =>
  (c_impl_ymix_0 N s (((ByteArray.size s) : Nat) : Int) (Go.IntKind.wrap Go.IntKind.i64 (n1 + (1 : Int))) (0 : Int) fun n5 =>
  (k (Int.tmod (Go.IntKind.wrap Go.IntKind.i64 ((Go.IntKind.wrap Go.IntKind.i64 (n5 * (40503 : Int))) + (77 : Int))) (2147483629 : Int)))))
theorem e_impl_ymix (N : Nat) {R : Type} (s : ByteArray) (n : Int) (K : AV → Hp E → Option R) :
    runFnI (E := E) (O_impl_ymix N) (IT_impl_ymix_0 N) sl_impl_ymix J_impl_ymix Go.Proofs.Try.f67 [(Go.Eng.AV.sc (Go.Eng.SV.str s)), (Go.Eng.AV.sc (Go.Eng.SV.int Go.IntKind.i64 n))] [] K =
      g_impl_ymix N s n (fun n6 => K (Go.Eng.AV.sc (Go.Eng.SV.int Go.IntKind.i64 n6)) []) := by kernel_rfl
def o_impl_ymix (N : Nat) {R : Type} (args : List AV) (H : Hp E) (K : AV → Hp E → Option R) : Option R :=
  match args, H with
  | [(Go.Eng.AV.sc (Go.Eng.SV.str s)), (Go.Eng.AV.sc (Go.Eng.SV.int Go.IntKind.i64 n))], [] => g_impl_ymix N s n (fun n6 => K (Go.Eng.AV.sc (Go.Eng.SV.int Go.IntKind.i64 n6)) [])
  | _, _ => none
theorem o_impl_ymix_ok (N : Nat) : FnOk E 67 (o_impl_ymix N) := by
  intro R args H K r h
  unfold o_impl_ymix at h
  dsimp only at h
  split at h
  · exact fnB_ok (ids := [0]) (top := [0]) ok (O_impl_ymix_ok N) (jn_ok _ _ _) Go.Proofs.Try.func67 (by kernel_rfl) (IT := IT_impl_ymix_0 N) (sl := sl_impl_ymix) (J := J_impl_ymix) (K := K) (H := []) (IT_impl_ymix_0_ok N) (by kernel_rfl) rfl ((e_impl_ymix N _ _ K).trans h)
  · cases h
/-! ### loop.example/g00038/impl.PutWord -/
abbrev sl_impl_PutWord : SlotT := []
abbrev J_impl_PutWord : JT := jn [] [] []
noncomputable def O_impl_PutWord (N : Nat) : Orc E := noFn
theorem O_impl_PutWord_ok (N : Nat) : OrcOk (O_impl_PutWord N) := noFn_ok
def g_impl_PutWord (N : Nat) {R : Type} (n : Int) (k : ByteArray → Option R) : Option R :=
  (k (Go.Eng.toBytes (Go.Eng.seg [(Go.IntKind.wrap Go.IntKind.u8 (Go.IntKind.wrap Go.IntKind.u32 n)), (Go.IntKind.wrap Go.IntKind.u8 (Int.fdiv (Go.IntKind.wrap Go.IntKind.u32 n) (256 : Int))), (Go.IntKind.wrap Go.IntKind.u8 (Int.fdiv (Go.IntKind.wrap Go.IntKind.u32 n) (65536 : Int))), (Go.IntKind.wrap Go.IntKind.u8 (Int.fdiv (Go.IntKind.wrap Go.IntKind.u32 n) (16777216 : Int)))] 0 (List.length [(Go.IntKind.wrap Go.IntKind.u8 (Go.IntKind.wrap Go.IntKind.u32 n)), (Go.IntKind.wrap Go.IntKind.u8 (Int.fdiv (Go.IntKind.wrap Go.IntKind.u32 n) (256 : Int))), (Go.IntKind.wrap Go.IntKind.u8 (Int.fdiv (Go.IntKind.wrap Go.IntKind.u32 n) (65536 : Int))), (Go.IntKind.wrap Go.IntKind.u8 (Int.fdiv (Go.IntKind.wrap Go.IntKind.u32 n) (16777216 : Int)))]))))
theorem e_impl_PutWord (N : Nat) {R : Type} (n : Int) (K : AV → Hp E → Option R) :
    runFnI (E := E) (O_impl_PutWord N) (noIt) sl_impl_PutWord J_impl_PutWord Go.Proofs.Try.f69 [(Go.Eng.AV.sc (Go.Eng.SV.int Go.IntKind.i64 n))] [] K =
      g_impl_PutWord N n (fun s => K (Go.Eng.AV.sc (Go.Eng.SV.str s)) []) := by kernel_rfl
def o_impl_PutWord (N : Nat) {R : Type} (args : List AV) (H : Hp E) (K : AV → Hp E → Option R) : Option R :=
  match args, H with
  | [(Go.Eng.AV.sc (Go.Eng.SV.int Go.IntKind.i64 n))], [] => g_impl_PutWord N n (fun s => K (Go.Eng.AV.sc (Go.Eng.SV.str s)) [])
  | _, _ => none
theorem o_impl_PutWord_ok (N : Nat) : FnOk E 69 (o_impl_PutWord N) := by
  intro R args H K r h
  unfold o_impl_PutWord at h
  dsimp only at h
  split at h
  · exact fnB_ok (ids := []) (top := []) ok (O_impl_PutWord_ok N) (jn_ok _ _ _) Go.Proofs.Try.func69 (by kernel_rfl) (IT := noIt) (sl := sl_impl_PutWord) (J := J_impl_PutWord) (K := K) (H := []) (noIt_ok) (by kernel_rfl) rfl ((e_impl_PutWord N _ K).trans h)
  · cases h
end Go.Sa
