import Derived.Test.YtjimjkhpahegjaaSpec
import Derived.Test.YtjimjkhpahegjaaPLb
set_option linter.all false
namespace Go.Sa
open Go Go.Eng Go.Proofs
set_option maxRecDepth 100000
/-! ### loop.example/g00038/laws.szKeySlot -/
abbrev sl_laws_szKeySlot : SlotT := []
abbrev J_laws_szKeySlot : JT := jn [] [] []
noncomputable def O_laws_szKeySlot (N : Nat) : Orc E := noFn
theorem O_laws_szKeySlot_ok (N : Nat) : OrcOk (O_laws_szKeySlot N) := noFn_ok
def g_laws_szKeySlot (N : Nat) {R : Type} (n : Int) (s : ByteArray) (s1 : ByteArray) (n1 : Int) (k : Int → Option R) : Option R :=
  (cond (decide (((Go.IntKind.wrap Go.IntKind.i64 (n1 - (((ByteArray.size s) : Nat) : Int))) < (0 : Int))))
  (k (-(1 : Int)))
  (cond (decide (((Go.IntKind.wrap Go.IntKind.i64 ((Go.IntKind.wrap Go.IntKind.i64 (n1 - (((ByteArray.size s) : Nat) : Int))) - (((ByteArray.size s1) : Nat) : Int))) < (0 : Int))))
    (k (-(1 : Int)))
    (k (Go.IntKind.wrap Go.IntKind.i64 ((Go.IntKind.wrap Go.IntKind.i64 (n1 - (((ByteArray.size s) : Nat) : Int))) - (((ByteArray.size s1) : Nat) : Int))))))
theorem e_laws_szKeySlot (N : Nat) {R : Type} (n : Int) (s : ByteArray) (s1 : ByteArray) (n1 : Int) (K : AV → Hp E → Option R) :
    runFnI (E := E) (O_laws_szKeySlot N) (noIt) sl_laws_szKeySlot J_laws_szKeySlot Go.Proofs.Try.f149 [(Go.Eng.AV.agg [(Go.Eng.SV.int Go.IntKind.i64 n), (Go.Eng.SV.str s), (Go.Eng.SV.str s1)]), (Go.Eng.AV.sc (Go.Eng.SV.int Go.IntKind.i64 n1))] [] K =
      g_laws_szKeySlot N n s s1 n1 (fun n2 => K (Go.Eng.AV.sc (Go.Eng.SV.int Go.IntKind.i64 n2)) []) := by kernel_rfl
def o_laws_szKeySlot (N : Nat) {R : Type} (args : List AV) (H : Hp E) (K : AV → Hp E → Option R) : Option R :=
  match args, H with
  | [(Go.Eng.AV.agg [(Go.Eng.SV.int Go.IntKind.i64 n), (Go.Eng.SV.str s), (Go.Eng.SV.str s1)]), (Go.Eng.AV.sc (Go.Eng.SV.int Go.IntKind.i64 n1))], [] => g_laws_szKeySlot N n s s1 n1 (fun n2 => K (Go.Eng.AV.sc (Go.Eng.SV.int Go.IntKind.i64 n2)) [])
  | _, _ => none
theorem o_laws_szKeySlot_ok (N : Nat) : FnOk E 149 (o_laws_szKeySlot N) := by
  intro R args H K r h
  unfold o_laws_szKeySlot at h
  dsimp only at h
  split at h
  · exact fnB_ok (ids := []) (top := []) ok (O_laws_szKeySlot_ok N) (jn_ok _ _ _) Go.Proofs.Try.func149 (by kernel_rfl) (IT := noIt) (sl := sl_laws_szKeySlot) (J := J_laws_szKeySlot) (K := K) (H := []) (noIt_ok) (by kernel_rfl) rfl ((e_laws_szKeySlot N _ _ _ _ K).trans h)
  · cases h
/-! ### loop.example/g00038/laws.szKeySlotS -/
abbrev sl_laws_szKeySlotS_r : SlotT := [(0, ([0, 1, 5], [1, 4]))]
abbrev J_laws_szKeySlotS_r : JT := jn [] [] []
noncomputable def O_laws_szKeySlotS_r (N : Nat) : Orc E := addFn 149 (o_laws_szKeySlot N) (noFn)
theorem O_laws_szKeySlotS_r_ok (N : Nat) : OrcOk (O_laws_szKeySlotS_r N) := addFn_ok (o_laws_szKeySlot_ok N) (noFn_ok)
def s_laws_szKeySlotS_r_0 (N : Nat) {R : Type} (b1 : Bool) (l1 : List Go.Sa.KeySlot) (n1 : Int) (n2 : Int) (ag : Int → Int → Option R)  (kR : Int → Option R) (kN : Int → Option R) : Option R :=
  (cond (decide ((n2 < (((List.length l1) : Nat) : Int))))
  (cond ((decide (((0 : Int) ≤ n2))) && (decide ((n2 < (((List.length l1) : Nat) : Int)))))
    (elemK l1 (Int.toNat n2) fun x =>
      (g_laws_szKeySlot N (Go.Sa.KeySlot.fSalt x) (Go.Sa.KeySlot.fKey x) (Go.Sa.KeySlot.fTag x) n1 fun n3 =>
      (cond (decide ((n3 < (0 : Int))))
      (kR n3)
      (ag n3 (Go.IntKind.wrap Go.IntKind.i64 (n2 + (1 : Int)))))))
    none)
  (kN n1))
def l_laws_szKeySlotS_r_0 (N : Nat) {R : Type} (b1 : Bool) (l1 : List Go.Sa.KeySlot) (kR : Int → Option R) (kN : Int → Option R) : Nat → Int → Int → Option R
  | 0, _, _ => none
  | f + 1, n1, n2 => s_laws_szKeySlotS_r_0 N b1 l1 n1 n2 (fun n1 n2 => l_laws_szKeySlotS_r_0 N b1 l1 kR kN f n1 n2)  kR kN
def c_laws_szKeySlotS_r_0 (N : Nat) {R : Type} (b1 : Bool) (l1 : List Go.Sa.KeySlot) (n1 : Int) (n2 : Int) (kR : Int → Option R) (kN : Int → Option R) : Option R := l_laws_szKeySlotS_r_0 N b1 l1 kR kN N n1 n2
theorem se_laws_szKeySlotS_r_0 (N : Nat) {R : Type} (b1 : Bool) (l1 : List Go.Sa.KeySlot) (n1 : Int) (n2 : Int) (AG : List (Option AV) → Hp E → Option R) (KL : Ex → List (Option AV) → Hp E → Option R) :
    iterStep (E := E) (O_laws_szKeySlotS_r N) (fun {R} => LI (noIt) 1 27 sl_laws_szKeySlotS_r (R := R)) J_laws_szKeySlotS_r 1 27 0 [0, 1, 5] [1, 4] (body Go.Proofs.Try.f115 0) AG KL [(Option.some (Go.Eng.AV.sc (Go.Eng.SV.slc 0 Option.none b1))), (Option.some (Go.Eng.AV.sc (Go.Eng.SV.int Go.IntKind.i64 n1))), (Option.some (Go.Eng.AV.sc (Go.Eng.SV.int Go.IntKind.i64 n2)))] [(Option.some (Go.Eng.HE.mk Bool.true (Go.Eng.HB.rows (Go.Sa.B.lKeySlot l1))))] =
      s_laws_szKeySlotS_r_0 N b1 l1 n1 n2 (fun n1 n2 => AG [(Option.some (Go.Eng.AV.sc (Go.Eng.SV.slc 0 Option.none b1))), (Option.some (Go.Eng.AV.sc (Go.Eng.SV.int Go.IntKind.i64 n1))), (Option.some (Go.Eng.AV.sc (Go.Eng.SV.int Go.IntKind.i64 n2)))] [(Option.some (Go.Eng.HE.mk Bool.true (Go.Eng.HB.rows (Go.Sa.B.lKeySlot l1))))])  (fun n7 => KL Go.Eng.Ex.ret [(Option.some (Go.Eng.AV.sc (Go.Eng.SV.int Go.IntKind.i64 n7))), (Option.some (Go.Eng.AV.sc (Go.Eng.SV.int Go.IntKind.i64 (-(1 : Int)))))] [(Option.some (Go.Eng.HE.mk Bool.true (Go.Eng.HB.rows (Go.Sa.B.lKeySlot l1))))]) (fun n8 => KL Go.Eng.Ex.normal [(Option.some (Go.Eng.AV.sc (Go.Eng.SV.int Go.IntKind.i64 n8))), Option.none] [(Option.some (Go.Eng.HE.mk Bool.true (Go.Eng.HB.rows (Go.Sa.B.lKeySlot l1))))]) := by kernel_rfl
theorem le_laws_szKeySlotS_r_0 (N : Nat) {R : Type} (b1 : Bool) (l1 : List Go.Sa.KeySlot) (KL : Ex → List (Option AV) → Hp E → Option R) : ∀ (f : Nat), ∀ (n1 : Int) (n2 : Int), iterK (E := E) (O_laws_szKeySlotS_r N) (fun {R} => LI (noIt) 1 27 sl_laws_szKeySlotS_r (R := R)) J_laws_szKeySlotS_r 1 27 0 [0, 1, 5] [1, 4] (body Go.Proofs.Try.f115 0) f [(Option.some (Go.Eng.AV.sc (Go.Eng.SV.slc 0 Option.none b1))), (Option.some (Go.Eng.AV.sc (Go.Eng.SV.int Go.IntKind.i64 n1))), (Option.some (Go.Eng.AV.sc (Go.Eng.SV.int Go.IntKind.i64 n2)))] [(Option.some (Go.Eng.HE.mk Bool.true (Go.Eng.HB.rows (Go.Sa.B.lKeySlot l1))))] KL = l_laws_szKeySlotS_r_0 N b1 l1 (fun n7 => KL Go.Eng.Ex.ret [(Option.some (Go.Eng.AV.sc (Go.Eng.SV.int Go.IntKind.i64 n7))), (Option.some (Go.Eng.AV.sc (Go.Eng.SV.int Go.IntKind.i64 (-(1 : Int)))))] [(Option.some (Go.Eng.HE.mk Bool.true (Go.Eng.HB.rows (Go.Sa.B.lKeySlot l1))))]) (fun n8 => KL Go.Eng.Ex.normal [(Option.some (Go.Eng.AV.sc (Go.Eng.SV.int Go.IntKind.i64 n8))), Option.none] [(Option.some (Go.Eng.HE.mk Bool.true (Go.Eng.HB.rows (Go.Sa.B.lKeySlot l1))))]) f n1 n2 := by
  intro f
  induction f with
  | zero => intros; rfl
  | succ f ih =>
    intro n1 n2
    rw [iterK_succ, se_laws_szKeySlotS_r_0]
    exact (congrArg (fun z0 => s_laws_szKeySlotS_r_0 N b1 l1 n1 n2 z0 (fun n7 => KL Go.Eng.Ex.ret [(Option.some (Go.Eng.AV.sc (Go.Eng.SV.int Go.IntKind.i64 n7))), (Option.some (Go.Eng.AV.sc (Go.Eng.SV.int Go.IntKind.i64 (-(1 : Int)))))] [(Option.some (Go.Eng.HE.mk Bool.true (Go.Eng.HB.rows (Go.Sa.B.lKeySlot l1))))]) (fun n8 => KL Go.Eng.Ex.normal [(Option.some (Go.Eng.AV.sc (Go.Eng.SV.int Go.IntKind.i64 n8))), Option.none] [(Option.some (Go.Eng.HE.mk Bool.true (Go.Eng.HB.rows (Go.Sa.B.lKeySlot l1))))])) (funext fun n1 => funext fun n2 => ih n1 n2))
def i_laws_szKeySlotS_r_0 (N : Nat) {R : Type} (vs : List (Option AV)) (H : Hp E) (KL : Ex → List (Option AV) → Hp E → Option R) : Option R :=
  match vs, H with
  | [(Option.some (Go.Eng.AV.sc (Go.Eng.SV.slc 0 Option.none b1))), (Option.some (Go.Eng.AV.sc (Go.Eng.SV.int Go.IntKind.i64 n1))), (Option.some (Go.Eng.AV.sc (Go.Eng.SV.int Go.IntKind.i64 n2)))], [(Option.some (Go.Eng.HE.mk Bool.true (Go.Eng.HB.rows (Go.Sa.B.lKeySlot l1))))] => c_laws_szKeySlotS_r_0 N b1 l1 n1 n2 (fun n9 => KL Go.Eng.Ex.ret [(Option.some (Go.Eng.AV.sc (Go.Eng.SV.int Go.IntKind.i64 n9))), (Option.some (Go.Eng.AV.sc (Go.Eng.SV.int Go.IntKind.i64 (-(1 : Int)))))] [(Option.some (Go.Eng.HE.mk Bool.true (Go.Eng.HB.rows (Go.Sa.B.lKeySlot l1))))]) (fun n10 => KL Go.Eng.Ex.normal [(Option.some (Go.Eng.AV.sc (Go.Eng.SV.int Go.IntKind.i64 n10))), Option.none] [(Option.some (Go.Eng.HE.mk Bool.true (Go.Eng.HB.rows (Go.Sa.B.lKeySlot l1))))])
  | _, _ => none
noncomputable def IT_laws_szKeySlotS_r_0 (N : Nat) : Its E := addIt 0 (i_laws_szKeySlotS_r_0 N) (noIt)
theorem IT_laws_szKeySlotS_r_0_ok (N : Nat) : ItOk (IT_laws_szKeySlotS_r_0 N) 1 27 sl_laws_szKeySlotS_r (lsB Go.Proofs.Try.f115 [0]) :=
  addItB_ok (inner := []) ok (O_laws_szKeySlotS_r_ok N) (jn_ok _ _ _) (noIt_ok) rfl (by kernel_rfl) rfl fun vs H KL r h => by
    unfold i_laws_szKeySlotS_r_0 at h
    split at h
    · exact ⟨_, (le_laws_szKeySlotS_r_0 N _ _ KL N _ _).trans h⟩
    · cases h
def g_laws_szKeySlotS_r (N : Nat) {R : Type} (b : Bool) (n : Int) (l : List Go.Sa.KeySlot) (k : Int → Option R) : Option R :=
  (cond (decide (((Go.IntKind.wrap Go.IntKind.i64 (n - (((List.length l) : Nat) : Int))) < (0 : Int))))
  (k (-(1 : Int)))
  (c_laws_szKeySlotS_r_0 N b l (Go.IntKind.wrap Go.IntKind.i64 (n - (((List.length l) : Nat) : Int))) (0 : Int) (fun n4 =>
    (k (-(1 : Int)))) (fun n5 =>
    (k n5))))
theorem e_laws_szKeySlotS_r (N : Nat) {R : Type} (b : Bool) (n : Int) (l : List Go.Sa.KeySlot) (K : AV → Hp E → Option R) :
    runFnI (E := E) (O_laws_szKeySlotS_r N) (IT_laws_szKeySlotS_r_0 N) sl_laws_szKeySlotS_r J_laws_szKeySlotS_r Go.Proofs.Try.f115 [(Go.Eng.AV.sc (Go.Eng.SV.slc 0 Option.none b)), (Go.Eng.AV.sc (Go.Eng.SV.int Go.IntKind.i64 n))] [(Option.some (Go.Eng.HE.mk Bool.true (Go.Eng.HB.rows (Go.Sa.B.lKeySlot l))))] K =
      g_laws_szKeySlotS_r N b n l (fun n6 => K (Go.Eng.AV.sc (Go.Eng.SV.int Go.IntKind.i64 n6)) [(Option.some (Go.Eng.HE.mk Bool.true (Go.Eng.HB.rows (Go.Sa.B.lKeySlot l))))]) := by kernel_rfl
def o_laws_szKeySlotS_r (N : Nat) {R : Type} (args : List AV) (H : Hp E) (K : AV → Hp E → Option R) : Option R :=
  match args, H with
  | [(Go.Eng.AV.sc (Go.Eng.SV.slc 0 Option.none b)), (Go.Eng.AV.sc (Go.Eng.SV.int Go.IntKind.i64 n))], [(Option.some (Go.Eng.HE.mk Bool.true (Go.Eng.HB.rows (Go.Sa.B.lKeySlot l))))] => g_laws_szKeySlotS_r N b n l (fun n6 => K (Go.Eng.AV.sc (Go.Eng.SV.int Go.IntKind.i64 n6)) [(Option.some (Go.Eng.HE.mk Bool.true (Go.Eng.HB.rows (Go.Sa.B.lKeySlot l))))])
  | _, _ => none
theorem o_laws_szKeySlotS_r_ok (N : Nat) : FnOk E 115 (o_laws_szKeySlotS_r N) := by
  intro R args H K r h
  unfold o_laws_szKeySlotS_r at h
  dsimp only at h
  split at h
  · exact fnB_ok (ids := [0]) (top := [0]) ok (O_laws_szKeySlotS_r_ok N) (jn_ok _ _ _) Go.Proofs.Try.func115 (by kernel_rfl) (IT := IT_laws_szKeySlotS_r_0 N) (sl := sl_laws_szKeySlotS_r) (J := J_laws_szKeySlotS_r) (K := K) (H := [(Option.some (Go.Eng.HE.mk Bool.true (Go.Eng.HB.rows (Go.Sa.B.lKeySlot _))))]) (IT_laws_szKeySlotS_r_0_ok N) (by kernel_rfl) rfl ((e_laws_szKeySlotS_r N _ _ _ K).trans h)
  · cases h
/-! ### loop.example/g00038/laws.szVolume -/
abbrev sl_laws_szVolume_r : SlotT := []
abbrev J_laws_szVolume_r : JT := jn [] [] []
noncomputable def O_laws_szVolume_r (N : Nat) : Orc E := addFn 115 (o_laws_szKeySlotS_r N) (noFn)
theorem O_laws_szVolume_r_ok (N : Nat) : OrcOk (O_laws_szVolume_r N) := addFn_ok (o_laws_szKeySlotS_r_ok N) (noFn_ok)
def g_laws_szVolume_r (N : Nat) {R : Type} (b : Bool) (s : ByteArray) (n : Int) (l : List Go.Sa.KeySlot) (k : Int → Option R) : Option R :=
  (g_laws_szKeySlotS_r N b n l fun n1 =>
  (cond (decide ((n1 < (0 : Int))))
  (k (-(1 : Int)))
  (cond (decide (((Go.IntKind.wrap Go.IntKind.i64 (n1 - (((ByteArray.size s) : Nat) : Int))) < (0 : Int))))
    (k (-(1 : Int)))
    (k (Go.IntKind.wrap Go.IntKind.i64 (n1 - (((ByteArray.size s) : Nat) : Int)))))))
theorem e_laws_szVolume_r (N : Nat) {R : Type} (b : Bool) (s : ByteArray) (n : Int) (l : List Go.Sa.KeySlot) (K : AV → Hp E → Option R) :
    runFnI (E := E) (O_laws_szVolume_r N) (noIt) sl_laws_szVolume_r J_laws_szVolume_r Go.Proofs.Try.f57 [(Go.Eng.AV.agg [(Go.Eng.SV.slc 0 Option.none b), (Go.Eng.SV.str s)]), (Go.Eng.AV.sc (Go.Eng.SV.int Go.IntKind.i64 n))] [(Option.some (Go.Eng.HE.mk Bool.true (Go.Eng.HB.rows (Go.Sa.B.lKeySlot l))))] K =
      g_laws_szVolume_r N b s n l (fun n2 => K (Go.Eng.AV.sc (Go.Eng.SV.int Go.IntKind.i64 n2)) [(Option.some (Go.Eng.HE.mk Bool.true (Go.Eng.HB.rows (Go.Sa.B.lKeySlot l))))]) := by kernel_rfl
def o_laws_szVolume_r (N : Nat) {R : Type} (args : List AV) (H : Hp E) (K : AV → Hp E → Option R) : Option R :=
  match args, H with
  | [(Go.Eng.AV.agg [(Go.Eng.SV.slc 0 Option.none b), (Go.Eng.SV.str s)]), (Go.Eng.AV.sc (Go.Eng.SV.int Go.IntKind.i64 n))], [(Option.some (Go.Eng.HE.mk Bool.true (Go.Eng.HB.rows (Go.Sa.B.lKeySlot l))))] => g_laws_szVolume_r N b s n l (fun n2 => K (Go.Eng.AV.sc (Go.Eng.SV.int Go.IntKind.i64 n2)) [(Option.some (Go.Eng.HE.mk Bool.true (Go.Eng.HB.rows (Go.Sa.B.lKeySlot l))))])
  | _, _ => none
theorem o_laws_szVolume_r_ok (N : Nat) : FnOk E 57 (o_laws_szVolume_r N) := by
  intro R args H K r h
  unfold o_laws_szVolume_r at h
  dsimp only at h
  split at h
  · exact fnB_ok (ids := []) (top := []) ok (O_laws_szVolume_r_ok N) (jn_ok _ _ _) Go.Proofs.Try.func57 (by kernel_rfl) (IT := noIt) (sl := sl_laws_szVolume_r) (J := J_laws_szVolume_r) (K := K) (H := [(Option.some (Go.Eng.HE.mk Bool.true (Go.Eng.HB.rows (Go.Sa.B.lKeySlot _))))]) (noIt_ok) (by kernel_rfl) rfl ((e_laws_szVolume_r N _ _ _ _ K).trans h)
  · cases h
/-! ### loop.example/g00038/laws.toKeySlot -/
abbrev sl_laws_toKeySlot : SlotT := []
abbrev J_laws_toKeySlot : JT := jn [] [] []
noncomputable def O_laws_toKeySlot (N : Nat) : Orc E := noFn
theorem O_laws_toKeySlot_ok (N : Nat) : OrcOk (O_laws_toKeySlot N) := noFn_ok
def g_laws_toKeySlot (N : Nat) {R : Type} (n : Int) (s : ByteArray) (s1 : ByteArray) (k : Option R) : Option R :=
  k
theorem e_laws_toKeySlot (N : Nat) {R : Type} (n : Int) (s : ByteArray) (s1 : ByteArray) (K : AV → Hp E → Option R) :
    runFnI (E := E) (O_laws_toKeySlot N) (noIt) sl_laws_toKeySlot J_laws_toKeySlot Go.Proofs.Try.f150 [(Go.Eng.AV.agg [(Go.Eng.SV.int Go.IntKind.i64 n), (Go.Eng.SV.str s), (Go.Eng.SV.str s1)])] [] K =
      g_laws_toKeySlot N n s s1 (K (Go.Eng.AV.agg [(Go.Eng.SV.int Go.IntKind.i64 n), (Go.Eng.SV.str s), (Go.Eng.SV.str s1)]) []) := by kernel_rfl
def o_laws_toKeySlot (N : Nat) {R : Type} (args : List AV) (H : Hp E) (K : AV → Hp E → Option R) : Option R :=
  match args, H with
  | [(Go.Eng.AV.agg [(Go.Eng.SV.int Go.IntKind.i64 n), (Go.Eng.SV.str s), (Go.Eng.SV.str s1)])], [] => g_laws_toKeySlot N n s s1 (K (Go.Eng.AV.agg [(Go.Eng.SV.int Go.IntKind.i64 n), (Go.Eng.SV.str s), (Go.Eng.SV.str s1)]) [])
  | _, _ => none
theorem o_laws_toKeySlot_ok (N : Nat) : FnOk E 150 (o_laws_toKeySlot N) := by
  intro R args H K r h
  unfold o_laws_toKeySlot at h
  dsimp only at h
  split at h
  · exact fnB_ok (ids := []) (top := []) ok (O_laws_toKeySlot_ok N) (jn_ok _ _ _) Go.Proofs.Try.func150 (by kernel_rfl) (IT := noIt) (sl := sl_laws_toKeySlot) (J := J_laws_toKeySlot) (K := K) (H := []) (noIt_ok) (by kernel_rfl) rfl ((e_laws_toKeySlot N _ _ _ K).trans h)
  · cases h
/-! ### loop.example/g00038/laws.toKeySlotS -/
abbrev sl_laws_toKeySlotS_r : SlotT := [(0, ([0, 3, 4], [3]))]
abbrev J_laws_toKeySlotS_r : JT := jn [] [] []
noncomputable def O_laws_toKeySlotS_r (N : Nat) : Orc E := addFn 150 (o_laws_toKeySlot N) (noFn)
theorem O_laws_toKeySlotS_r_ok (N : Nat) : OrcOk (O_laws_toKeySlotS_r N) := addFn_ok (o_laws_toKeySlot_ok N) (noFn_ok)
def s_laws_toKeySlotS_r_0 (N : Nat) {R : Type} (b1 : Bool) (b2 : Bool) (l1 : List Go.Sa.KeySlot) (n : Int) (l2 : List Go.Sa.KeySlot) (ag : Int → (List Go.Sa.KeySlot) → Option R)  (kN : (List Go.Sa.KeySlot) → Option R) : Option R :=
  (cond (decide ((n < (((List.length l1) : Nat) : Int))))
  (cond ((decide (((0 : Int) ≤ n))) && (decide ((n < (((List.length l1) : Nat) : Int)))))
    (elemK l1 (Int.toNat n) fun x =>
      (g_laws_toKeySlot N (Go.Sa.KeySlot.fSalt x) (Go.Sa.KeySlot.fKey x) (Go.Sa.KeySlot.fTag x) 
      (cond ((decide (((0 : Int) ≤ n))) && (decide ((n < (((List.length l2) : Nat) : Int)))))
      (elemK l2 (Int.toNat n) fun x1 =>
        (cond (Nat.blt (Int.toNat n) (List.length l2))
        (ag (Go.IntKind.wrap Go.IntKind.i64 (n + (1 : Int))) (Go.Eng.nset l2 (Int.toNat n) (Go.Sa.KeySlot.mk (Go.Sa.KeySlot.fSalt x) (Go.Sa.KeySlot.fKey x) (Go.Sa.KeySlot.fTag x))))
        none))
      none)))
    none)
  (kN l2))
def l_laws_toKeySlotS_r_0 (N : Nat) {R : Type} (b1 : Bool) (b2 : Bool) (l1 : List Go.Sa.KeySlot) (kN : (List Go.Sa.KeySlot) → Option R) : Nat → Int → (List Go.Sa.KeySlot) → Option R
  | 0, _, _ => none
  | f + 1, n, l2 => s_laws_toKeySlotS_r_0 N b1 b2 l1 n l2 (fun n l2 => l_laws_toKeySlotS_r_0 N b1 b2 l1 kN f n l2)  kN
def c_laws_toKeySlotS_r_0 (N : Nat) {R : Type} (b1 : Bool) (b2 : Bool) (l1 : List Go.Sa.KeySlot) (n : Int) (l2 : List Go.Sa.KeySlot) (kN : (List Go.Sa.KeySlot) → Option R) : Option R := l_laws_toKeySlotS_r_0 N b1 b2 l1 kN N n l2
theorem se_laws_toKeySlotS_r_0 (N : Nat) {R : Type} (b1 : Bool) (b2 : Bool) (l1 : List Go.Sa.KeySlot) (n : Int) (l2 : List Go.Sa.KeySlot) (AG : List (Option AV) → Hp E → Option R) (KL : Ex → List (Option AV) → Hp E → Option R) :
    iterStep (E := E) (O_laws_toKeySlotS_r N) (fun {R} => LI (noIt) 1 23 sl_laws_toKeySlotS_r (R := R)) J_laws_toKeySlotS_r 1 23 0 [0, 3, 4] [3] (body Go.Proofs.Try.f117 0) AG KL [(Option.some (Go.Eng.AV.sc (Go.Eng.SV.slc 0 Option.none b1))), (Option.some (Go.Eng.AV.sc (Go.Eng.SV.slc 1 Option.none b2))), (Option.some (Go.Eng.AV.sc (Go.Eng.SV.int Go.IntKind.i64 n)))] [(Option.some (Go.Eng.HE.mk Bool.true (Go.Eng.HB.rows (Go.Sa.B.lKeySlot l1)))), (Option.some (Go.Eng.HE.mk Bool.false (Go.Eng.HB.rows (Go.Sa.B.iKeySlot l2))))] =
      s_laws_toKeySlotS_r_0 N b1 b2 l1 n l2 (fun n l2 => AG [(Option.some (Go.Eng.AV.sc (Go.Eng.SV.slc 0 Option.none b1))), (Option.some (Go.Eng.AV.sc (Go.Eng.SV.slc 1 Option.none b2))), (Option.some (Go.Eng.AV.sc (Go.Eng.SV.int Go.IntKind.i64 n)))] [(Option.some (Go.Eng.HE.mk Bool.true (Go.Eng.HB.rows (Go.Sa.B.lKeySlot l1)))), (Option.some (Go.Eng.HE.mk Bool.false (Go.Eng.HB.rows (Go.Sa.B.iKeySlot l2))))])  (fun l5 => KL Go.Eng.Ex.normal [(Option.some (Go.Eng.AV.sc (Go.Eng.SV.slc 1 Option.none b2)))] [(Option.some (Go.Eng.HE.mk Bool.true (Go.Eng.HB.rows (Go.Sa.B.lKeySlot l1)))), (Option.some (Go.Eng.HE.mk Bool.false (Go.Eng.HB.rows (Go.Sa.B.iKeySlot l5))))]) := by kernel_rfl
theorem le_laws_toKeySlotS_r_0 (N : Nat) {R : Type} (b1 : Bool) (b2 : Bool) (l1 : List Go.Sa.KeySlot) (KL : Ex → List (Option AV) → Hp E → Option R) : ∀ (f : Nat), ∀ (n : Int) (l2 : List Go.Sa.KeySlot), iterK (E := E) (O_laws_toKeySlotS_r N) (fun {R} => LI (noIt) 1 23 sl_laws_toKeySlotS_r (R := R)) J_laws_toKeySlotS_r 1 23 0 [0, 3, 4] [3] (body Go.Proofs.Try.f117 0) f [(Option.some (Go.Eng.AV.sc (Go.Eng.SV.slc 0 Option.none b1))), (Option.some (Go.Eng.AV.sc (Go.Eng.SV.slc 1 Option.none b2))), (Option.some (Go.Eng.AV.sc (Go.Eng.SV.int Go.IntKind.i64 n)))] [(Option.some (Go.Eng.HE.mk Bool.true (Go.Eng.HB.rows (Go.Sa.B.lKeySlot l1)))), (Option.some (Go.Eng.HE.mk Bool.false (Go.Eng.HB.rows (Go.Sa.B.iKeySlot l2))))] KL = l_laws_toKeySlotS_r_0 N b1 b2 l1 (fun l5 => KL Go.Eng.Ex.normal [(Option.some (Go.Eng.AV.sc (Go.Eng.SV.slc 1 Option.none b2)))] [(Option.some (Go.Eng.HE.mk Bool.true (Go.Eng.HB.rows (Go.Sa.B.lKeySlot l1)))), (Option.some (Go.Eng.HE.mk Bool.false (Go.Eng.HB.rows (Go.Sa.B.iKeySlot l5))))]) f n l2 := by
  intro f
  induction f with
  | zero => intros; rfl
  | succ f ih =>
    intro n l2
    rw [iterK_succ, se_laws_toKeySlotS_r_0]
    exact (congrArg (fun z0 => s_laws_toKeySlotS_r_0 N b1 b2 l1 n l2 z0 (fun l5 => KL Go.Eng.Ex.normal [(Option.some (Go.Eng.AV.sc (Go.Eng.SV.slc 1 Option.none b2)))] [(Option.some (Go.Eng.HE.mk Bool.true (Go.Eng.HB.rows (Go.Sa.B.lKeySlot l1)))), (Option.some (Go.Eng.HE.mk Bool.false (Go.Eng.HB.rows (Go.Sa.B.iKeySlot l5))))])) (funext fun n => funext fun l2 => ih n l2))
def i_laws_toKeySlotS_r_0 (N : Nat) {R : Type} (vs : List (Option AV)) (H : Hp E) (KL : Ex → List (Option AV) → Hp E → Option R) : Option R :=
  match vs, H with
  | [(Option.some (Go.Eng.AV.sc (Go.Eng.SV.slc 0 Option.none b1))), (Option.some (Go.Eng.AV.sc (Go.Eng.SV.slc 1 Option.none b2))), (Option.some (Go.Eng.AV.sc (Go.Eng.SV.int Go.IntKind.i64 n)))], [(Option.some (Go.Eng.HE.mk Bool.true (Go.Eng.HB.rows (Go.Sa.B.lKeySlot l1)))), (Option.some (Go.Eng.HE.mk Bool.false (Go.Eng.HB.rows (Go.Sa.B.iKeySlot l2))))] => c_laws_toKeySlotS_r_0 N b1 b2 l1 n l2 (fun l6 => KL Go.Eng.Ex.normal [(Option.some (Go.Eng.AV.sc (Go.Eng.SV.slc 1 Option.none b2)))] [(Option.some (Go.Eng.HE.mk Bool.true (Go.Eng.HB.rows (Go.Sa.B.lKeySlot l1)))), (Option.some (Go.Eng.HE.mk Bool.false (Go.Eng.HB.rows (Go.Sa.B.iKeySlot l6))))])
  | _, _ => none
noncomputable def IT_laws_toKeySlotS_r_0 (N : Nat) : Its E := addIt 0 (i_laws_toKeySlotS_r_0 N) (noIt)
theorem IT_laws_toKeySlotS_r_0_ok (N : Nat) : ItOk (IT_laws_toKeySlotS_r_0 N) 1 23 sl_laws_toKeySlotS_r (lsB Go.Proofs.Try.f117 [0]) :=
  addItB_ok (inner := []) ok (O_laws_toKeySlotS_r_ok N) (jn_ok _ _ _) (noIt_ok) rfl (by kernel_rfl) rfl fun vs H KL r h => by
    unfold i_laws_toKeySlotS_r_0 at h
    split at h
    · exact ⟨_, (le_laws_toKeySlotS_r_0 N _ _ _ KL N _ _).trans h⟩
    · cases h
def g_laws_toKeySlotS_r (N : Nat) {R : Type} (b : Bool) (l : List Go.Sa.KeySlot) (k : (List Go.Sa.KeySlot) → Option R) : Option R :=
  (cond (((decide (((((List.length l) : Nat) : Int) = (((List.length l) : Nat) : Int)))) && Bool.true) && (Go.Eng.roomOk (Int.toNat (((List.length l) : Nat) : Int)) 40))
  (c_laws_toKeySlotS_r_0 N b Bool.false l (0 : Int) (List.replicate (Int.toNat (((List.length l) : Nat) : Int)) (Go.Sa.KeySlot.mk (0 : Int) (ByteArray.mk (List.toArray [])) (ByteArray.mk (List.toArray [])))) fun l3 =>
    (k l3))
  none)
theorem e_laws_toKeySlotS_r (N : Nat) {R : Type} (b : Bool) (l : List Go.Sa.KeySlot) (K : AV → Hp E → Option R) :
    runFnI (E := E) (O_laws_toKeySlotS_r N) (IT_laws_toKeySlotS_r_0 N) sl_laws_toKeySlotS_r J_laws_toKeySlotS_r Go.Proofs.Try.f117 [(Go.Eng.AV.sc (Go.Eng.SV.slc 0 Option.none b))] [(Option.some (Go.Eng.HE.mk Bool.true (Go.Eng.HB.rows (Go.Sa.B.lKeySlot l))))] K =
      g_laws_toKeySlotS_r N b l (fun l4 => K (Go.Eng.AV.sc (Go.Eng.SV.slc 1 Option.none Bool.false)) [(Option.some (Go.Eng.HE.mk Bool.true (Go.Eng.HB.rows (Go.Sa.B.lKeySlot l)))), (Option.some (Go.Eng.HE.mk Bool.false (Go.Eng.HB.rows (Go.Sa.B.iKeySlot l4))))]) := by kernel_rfl
def o_laws_toKeySlotS_r (N : Nat) {R : Type} (args : List AV) (H : Hp E) (K : AV → Hp E → Option R) : Option R :=
  match args, H with
  | [(Go.Eng.AV.sc (Go.Eng.SV.slc 0 Option.none b))], [(Option.some (Go.Eng.HE.mk Bool.true (Go.Eng.HB.rows (Go.Sa.B.lKeySlot l))))] => g_laws_toKeySlotS_r N b l (fun l4 => K (Go.Eng.AV.sc (Go.Eng.SV.slc 1 Option.none Bool.false)) [(Option.some (Go.Eng.HE.mk Bool.true (Go.Eng.HB.rows (Go.Sa.B.lKeySlot l)))), (Option.some (Go.Eng.HE.mk Bool.false (Go.Eng.HB.rows (Go.Sa.B.iKeySlot l4))))])
  | _, _ => none
theorem o_laws_toKeySlotS_r_ok (N : Nat) : FnOk E 117 (o_laws_toKeySlotS_r N) := by
  intro R args H K r h
  unfold o_laws_toKeySlotS_r at h
  dsimp only at h
  split at h
  · exact fnB_ok (ids := [0]) (top := [0]) ok (O_laws_toKeySlotS_r_ok N) (jn_ok _ _ _) Go.Proofs.Try.func117 (by kernel_rfl) (IT := IT_laws_toKeySlotS_r_0 N) (sl := sl_laws_toKeySlotS_r) (J := J_laws_toKeySlotS_r) (K := K) (H := [(Option.some (Go.Eng.HE.mk Bool.true (Go.Eng.HB.rows (Go.Sa.B.lKeySlot _))))]) (IT_laws_toKeySlotS_r_0_ok N) (by kernel_rfl) rfl ((e_laws_toKeySlotS_r N _ _ K).trans h)
  · cases h
/-! ### loop.example/g00038/laws.toVolume -/
abbrev sl_laws_toVolume_r : SlotT := []
abbrev J_laws_toVolume_r : JT := jn [] [] []
noncomputable def O_laws_toVolume_r (N : Nat) : Orc E := addFn 117 (o_laws_toKeySlotS_r N) (noFn)
theorem O_laws_toVolume_r_ok (N : Nat) : OrcOk (O_laws_toVolume_r N) := addFn_ok (o_laws_toKeySlotS_r_ok N) (noFn_ok)
def g_laws_toVolume_r (N : Nat) {R : Type} (b : Bool) (s : ByteArray) (l : List Go.Sa.KeySlot) (k : (List Go.Sa.KeySlot) → Option R) : Option R :=
  (g_laws_toKeySlotS_r N b l fun l1 =>
  (k l1))
theorem e_laws_toVolume_r (N : Nat) {R : Type} (b : Bool) (s : ByteArray) (l : List Go.Sa.KeySlot) (K : AV → Hp E → Option R) :
    runFnI (E := E) (O_laws_toVolume_r N) (noIt) sl_laws_toVolume_r J_laws_toVolume_r Go.Proofs.Try.f59 [(Go.Eng.AV.agg [(Go.Eng.SV.slc 0 Option.none b), (Go.Eng.SV.str s)])] [(Option.some (Go.Eng.HE.mk Bool.true (Go.Eng.HB.rows (Go.Sa.B.lKeySlot l))))] K =
      g_laws_toVolume_r N b s l (fun l2 => K (Go.Eng.AV.agg [(Go.Eng.SV.slc 1 Option.none Bool.false), (Go.Eng.SV.str s)]) [(Option.some (Go.Eng.HE.mk Bool.true (Go.Eng.HB.rows (Go.Sa.B.lKeySlot l)))), (Option.some (Go.Eng.HE.mk Bool.false (Go.Eng.HB.rows (Go.Sa.B.iKeySlot l2))))]) := by kernel_rfl
def o_laws_toVolume_r (N : Nat) {R : Type} (args : List AV) (H : Hp E) (K : AV → Hp E → Option R) : Option R :=
  match args, H with
  | [(Go.Eng.AV.agg [(Go.Eng.SV.slc 0 Option.none b), (Go.Eng.SV.str s)])], [(Option.some (Go.Eng.HE.mk Bool.true (Go.Eng.HB.rows (Go.Sa.B.lKeySlot l))))] => g_laws_toVolume_r N b s l (fun l2 => K (Go.Eng.AV.agg [(Go.Eng.SV.slc 1 Option.none Bool.false), (Go.Eng.SV.str s)]) [(Option.some (Go.Eng.HE.mk Bool.true (Go.Eng.HB.rows (Go.Sa.B.lKeySlot l)))), (Option.some (Go.Eng.HE.mk Bool.false (Go.Eng.HB.rows (Go.Sa.B.iKeySlot l2))))])
  | _, _ => none
theorem o_laws_toVolume_r_ok (N : Nat) : FnOk E 59 (o_laws_toVolume_r N) := by
  intro R args H K r h
  unfold o_laws_toVolume_r at h
  dsimp only at h
  split at h
  · exact fnB_ok (ids := []) (top := []) ok (O_laws_toVolume_r_ok N) (jn_ok _ _ _) Go.Proofs.Try.func59 (by kernel_rfl) (IT := noIt) (sl := sl_laws_toVolume_r) (J := J_laws_toVolume_r) (K := K) (H := [(Option.some (Go.Eng.HE.mk Bool.true (Go.Eng.HB.rows (Go.Sa.B.lKeySlot _))))]) (noIt_ok) (by kernel_rfl) rfl ((e_laws_toVolume_r N _ _ _ K).trans h)
  · cases h
/-! ### loop.example/g00038/spec.l01IsWord -/
abbrev sl_spec_l01IsWord : SlotT := []
abbrev J_spec_l01IsWord : JT := jn [(1, [(2, .b)])] [] []
noncomputable def O_spec_l01IsWord (N : Nat) : Orc E := noFn
theorem O_spec_l01IsWord_ok (N : Nat) : OrcOk (O_spec_l01IsWord N) := noFn_ok
def g_spec_l01IsWord (N : Nat) {R : Type} (n : Int) (k : Bool → Option R) : Option R :=
  (oK (cond (decide ((n ≥ (0 : Int))))
    (some (decide ((n < (4294967296 : Int)))))
    (some Bool.false)) fun j =>
  (k j))
theorem e_spec_l01IsWord (N : Nat) {R : Type} (n : Int) (K : AV → Hp E → Option R) :
    runFnI (E := E) (O_spec_l01IsWord N) (noIt) sl_spec_l01IsWord J_spec_l01IsWord Go.Proofs.Try.f73 [(Go.Eng.AV.sc (Go.Eng.SV.int Go.IntKind.i64 n))] [] K =
      g_spec_l01IsWord N n (fun b => K (Go.Eng.AV.sc (Go.Eng.SV.bool b)) []) := by kernel_rfl
def o_spec_l01IsWord (N : Nat) {R : Type} (args : List AV) (H : Hp E) (K : AV → Hp E → Option R) : Option R :=
  match args, H with
  | [(Go.Eng.AV.sc (Go.Eng.SV.int Go.IntKind.i64 n))], [] => g_spec_l01IsWord N n (fun b => K (Go.Eng.AV.sc (Go.Eng.SV.bool b)) [])
  | _, _ => none
theorem o_spec_l01IsWord_ok (N : Nat) : FnOk E 73 (o_spec_l01IsWord N) := by
  intro R args H K r h
  unfold o_spec_l01IsWord at h
  dsimp only at h
  split at h
  · exact fnB_ok (ids := []) (top := []) ok (O_spec_l01IsWord_ok N) (jn_ok _ _ _) Go.Proofs.Try.func73 (by kernel_rfl) (IT := noIt) (sl := sl_spec_l01IsWord) (J := J_spec_l01IsWord) (K := K) (H := []) (noIt_ok) (by kernel_rfl) rfl ((e_spec_l01IsWord N _ K).trans h)
  · cases h
/-! ### loop.example/g00038/spec.VolumeFault -/
abbrev sl_spec_VolumeFault_w : SlotT := [(0, ([1, 3], [2]))]
abbrev J_spec_VolumeFault_w : JT := jn [(1, [(20, .b)]), (7, [(48, .b)])] [] []
noncomputable def O_spec_VolumeFault_w (N : Nat) : Orc E := addFn 73 (o_spec_l01IsWord N) (noFn)
theorem O_spec_VolumeFault_w_ok (N : Nat) : OrcOk (O_spec_VolumeFault_w N) := addFn_ok (o_spec_l01IsWord_ok N) (noFn_ok)
def s_spec_VolumeFault_w_0 (N : Nat) {R : Type} (l1 : List Go.Sa.KeySlot) (b1 : Bool) (s1 : ByteArray) (n : Int) (ag : Int → Option R)  (kR : Option R) (kN : Option R) : Option R :=
  (cond (decide ((n < (((List.length l1) : Nat) : Int))))
  (cond ((decide (((0 : Int) ≤ n))) && (decide ((n < (((List.length l1) : Nat) : Int)))))
    (elemK l1 (Int.toNat n) fun x =>
      (oK (g_spec_l01IsWord N (Go.Sa.KeySlot.fSalt x) fun b2 =>
        (cond (!b2)
        (some Bool.true)
        (cond ((((ByteArray.size (Go.Sa.KeySlot.fKey x)) : Nat) : Int) != (16 : Int))
          (some Bool.true)
          (some ((((ByteArray.size (Go.Sa.KeySlot.fTag x)) : Nat) : Int) != (8 : Int)))))) fun j1 =>
      (cond j1
      kR
      (ag (Go.IntKind.wrap Go.IntKind.i64 (n + (1 : Int)))))))
    none)
  kN)
def l_spec_VolumeFault_w_0 (N : Nat) {R : Type} (l1 : List Go.Sa.KeySlot) (b1 : Bool) (s1 : ByteArray) (kR : Option R) (kN : Option R) : Nat → Int → Option R
  | 0, _ => none
  | f + 1, n => s_spec_VolumeFault_w_0 N l1 b1 s1 n (fun n => l_spec_VolumeFault_w_0 N l1 b1 s1 kR kN f n)  kR kN
def c_spec_VolumeFault_w_0 (N : Nat) {R : Type} (l1 : List Go.Sa.KeySlot) (b1 : Bool) (s1 : ByteArray) (n : Int) (kR : Option R) (kN : Option R) : Option R := l_spec_VolumeFault_w_0 N l1 b1 s1 kR kN N n
theorem se_spec_VolumeFault_w_0 (N : Nat) {R : Type} (l1 : List Go.Sa.KeySlot) (b1 : Bool) (s1 : ByteArray) (n : Int) (AG : List (Option AV) → Hp E → Option R) (KL : Ex → List (Option AV) → Hp E → Option R) :
    iterStep (E := E) (O_spec_VolumeFault_w N) (fun {R} => LI (noIt) 1 49 sl_spec_VolumeFault_w (R := R)) J_spec_VolumeFault_w 1 49 0 [1, 3] [2] (body Go.Proofs.Try.f116 0) AG KL [(Option.some (Go.Eng.AV.sc (Go.Eng.SV.ptr 1 0 0))), (Option.some (Go.Eng.AV.sc (Go.Eng.SV.int Go.IntKind.i64 n)))] [(Option.some (Go.Eng.HE.mk Bool.false (Go.Eng.HB.rows (Go.Sa.B.iKeySlot l1)))), (Option.some (Go.Eng.HE.mk Bool.false (Go.Eng.HB.exp Option.none [(Go.Eng.SV.slc 0 Option.none b1), (Go.Eng.SV.str s1)])))] =
      s_spec_VolumeFault_w_0 N l1 b1 s1 n (fun n => AG [(Option.some (Go.Eng.AV.sc (Go.Eng.SV.ptr 1 0 0))), (Option.some (Go.Eng.AV.sc (Go.Eng.SV.int Go.IntKind.i64 n)))] [(Option.some (Go.Eng.HE.mk Bool.false (Go.Eng.HB.rows (Go.Sa.B.iKeySlot l1)))), (Option.some (Go.Eng.HE.mk Bool.false (Go.Eng.HB.exp Option.none [(Go.Eng.SV.slc 0 Option.none b1), (Go.Eng.SV.str s1)])))])  (KL Go.Eng.Ex.ret [(Option.some (Go.Eng.AV.sc (Go.Eng.SV.int Go.IntKind.i64 (1 : Int))))] [(Option.some (Go.Eng.HE.mk Bool.false (Go.Eng.HB.rows (Go.Sa.B.iKeySlot l1))))]) (KL Go.Eng.Ex.normal [Option.none] [(Option.some (Go.Eng.HE.mk Bool.false (Go.Eng.HB.rows (Go.Sa.B.iKeySlot l1))))]) := by kernel_rfl
theorem le_spec_VolumeFault_w_0 (N : Nat) {R : Type} (l1 : List Go.Sa.KeySlot) (b1 : Bool) (s1 : ByteArray) (KL : Ex → List (Option AV) → Hp E → Option R) : ∀ (f : Nat), ∀ (n : Int), iterK (E := E) (O_spec_VolumeFault_w N) (fun {R} => LI (noIt) 1 49 sl_spec_VolumeFault_w (R := R)) J_spec_VolumeFault_w 1 49 0 [1, 3] [2] (body Go.Proofs.Try.f116 0) f [(Option.some (Go.Eng.AV.sc (Go.Eng.SV.ptr 1 0 0))), (Option.some (Go.Eng.AV.sc (Go.Eng.SV.int Go.IntKind.i64 n)))] [(Option.some (Go.Eng.HE.mk Bool.false (Go.Eng.HB.rows (Go.Sa.B.iKeySlot l1)))), (Option.some (Go.Eng.HE.mk Bool.false (Go.Eng.HB.exp Option.none [(Go.Eng.SV.slc 0 Option.none b1), (Go.Eng.SV.str s1)])))] KL = l_spec_VolumeFault_w_0 N l1 b1 s1 (KL Go.Eng.Ex.ret [(Option.some (Go.Eng.AV.sc (Go.Eng.SV.int Go.IntKind.i64 (1 : Int))))] [(Option.some (Go.Eng.HE.mk Bool.false (Go.Eng.HB.rows (Go.Sa.B.iKeySlot l1))))]) (KL Go.Eng.Ex.normal [Option.none] [(Option.some (Go.Eng.HE.mk Bool.false (Go.Eng.HB.rows (Go.Sa.B.iKeySlot l1))))]) f n := by
  intro f
  induction f with
  | zero => intros; rfl
  | succ f ih =>
    intro n
    rw [iterK_succ, se_spec_VolumeFault_w_0]
    exact (congrArg (fun z0 => s_spec_VolumeFault_w_0 N l1 b1 s1 n z0 (KL Go.Eng.Ex.ret [(Option.some (Go.Eng.AV.sc (Go.Eng.SV.int Go.IntKind.i64 (1 : Int))))] [(Option.some (Go.Eng.HE.mk Bool.false (Go.Eng.HB.rows (Go.Sa.B.iKeySlot l1))))]) (KL Go.Eng.Ex.normal [Option.none] [(Option.some (Go.Eng.HE.mk Bool.false (Go.Eng.HB.rows (Go.Sa.B.iKeySlot l1))))])) (funext fun n => ih n))
def i_spec_VolumeFault_w_0 (N : Nat) {R : Type} (vs : List (Option AV)) (H : Hp E) (KL : Ex → List (Option AV) → Hp E → Option R) : Option R :=
  match vs, H with
  | [(Option.some (Go.Eng.AV.sc (Go.Eng.SV.ptr 1 0 0))), (Option.some (Go.Eng.AV.sc (Go.Eng.SV.int Go.IntKind.i64 n)))], [(Option.some (Go.Eng.HE.mk Bool.false (Go.Eng.HB.rows (Go.Sa.B.iKeySlot l1)))), (Option.some (Go.Eng.HE.mk Bool.false (Go.Eng.HB.exp Option.none [(Go.Eng.SV.slc 0 Option.none b1), (Go.Eng.SV.str s1)])))] => c_spec_VolumeFault_w_0 N l1 b1 s1 n (KL Go.Eng.Ex.ret [(Option.some (Go.Eng.AV.sc (Go.Eng.SV.int Go.IntKind.i64 (1 : Int))))] [(Option.some (Go.Eng.HE.mk Bool.false (Go.Eng.HB.rows (Go.Sa.B.iKeySlot l1))))]) (KL Go.Eng.Ex.normal [Option.none] [(Option.some (Go.Eng.HE.mk Bool.false (Go.Eng.HB.rows (Go.Sa.B.iKeySlot l1))))])
  | _, _ => none
noncomputable def IT_spec_VolumeFault_w_0 (N : Nat) : Its E := addIt 0 (i_spec_VolumeFault_w_0 N) (noIt)
theorem IT_spec_VolumeFault_w_0_ok (N : Nat) : ItOk (IT_spec_VolumeFault_w_0 N) 1 49 sl_spec_VolumeFault_w (lsB Go.Proofs.Try.f116 [0]) :=
  addItB_ok (inner := []) ok (O_spec_VolumeFault_w_ok N) (jn_ok _ _ _) (noIt_ok) rfl (by kernel_rfl) rfl fun vs H KL r h => by
    unfold i_spec_VolumeFault_w_0 at h
    split at h
    · exact ⟨_, (le_spec_VolumeFault_w_0 N _ _ _ KL N _).trans h⟩
    · cases h
def g_spec_VolumeFault_w (N : Nat) {R : Type} (b : Bool) (s : ByteArray) (l : List Go.Sa.KeySlot) (k : Int → Option R) : Option R :=
  (oK (cond (decide (((((List.length l) : Nat) : Int) < (1 : Int))))
    (some Bool.true)
    (cond (decide (((((List.length l) : Nat) : Int) > (4 : Int))))
      (some Bool.true)
      (some ((((ByteArray.size s) : Nat) : Int) != (8 : Int))))) fun j =>
  (cond j
  (k (1 : Int))
  (c_spec_VolumeFault_w_0 N l b s (0 : Int) (
    (k (1 : Int))) (
    (k (0 : Int))))))
theorem e_spec_VolumeFault_w (N : Nat) {R : Type} (b : Bool) (s : ByteArray) (l : List Go.Sa.KeySlot) (K : AV → Hp E → Option R) :
    runFnI (E := E) (O_spec_VolumeFault_w N) (IT_spec_VolumeFault_w_0 N) sl_spec_VolumeFault_w J_spec_VolumeFault_w Go.Proofs.Try.f116 [(Go.Eng.AV.agg [(Go.Eng.SV.slc 0 Option.none b), (Go.Eng.SV.str s)])] [(Option.some (Go.Eng.HE.mk Bool.false (Go.Eng.HB.rows (Go.Sa.B.iKeySlot l))))] K =
      g_spec_VolumeFault_w N b s l (fun n1 => K (Go.Eng.AV.sc (Go.Eng.SV.int Go.IntKind.i64 n1)) [(Option.some (Go.Eng.HE.mk Bool.false (Go.Eng.HB.rows (Go.Sa.B.iKeySlot l))))]) := by kernel_rfl
def o_spec_VolumeFault_w (N : Nat) {R : Type} (args : List AV) (H : Hp E) (K : AV → Hp E → Option R) : Option R :=
  match args, H with
  | [(Go.Eng.AV.agg [(Go.Eng.SV.slc 0 Option.none b), (Go.Eng.SV.str s)])], [(Option.some (Go.Eng.HE.mk Bool.false (Go.Eng.HB.rows (Go.Sa.B.iKeySlot l))))] => g_spec_VolumeFault_w N b s l (fun n1 => K (Go.Eng.AV.sc (Go.Eng.SV.int Go.IntKind.i64 n1)) [(Option.some (Go.Eng.HE.mk Bool.false (Go.Eng.HB.rows (Go.Sa.B.iKeySlot l))))])
  | _, _ => none
theorem o_spec_VolumeFault_w_ok (N : Nat) : FnOk E 116 (o_spec_VolumeFault_w N) := by
  intro R args H K r h
  unfold o_spec_VolumeFault_w at h
  dsimp only at h
  split at h
  · exact fnB_ok (ids := [0]) (top := [0]) ok (O_spec_VolumeFault_w_ok N) (jn_ok _ _ _) Go.Proofs.Try.func116 (by kernel_rfl) (IT := IT_spec_VolumeFault_w_0 N) (sl := sl_spec_VolumeFault_w) (J := J_spec_VolumeFault_w) (K := K) (H := [(Option.some (Go.Eng.HE.mk Bool.false (Go.Eng.HB.rows (Go.Sa.B.iKeySlot _))))]) (IT_spec_VolumeFault_w_0_ok N) (by kernel_rfl) rfl ((e_spec_VolumeFault_w N _ _ _ K).trans h)
  · cases h
/-! ### loop.example/g00038/spec.DropPass -/
abbrev sl_spec_DropPass_w : SlotT := []
abbrev J_spec_DropPass_w : JT := jn [(3, [(10, .b)])] [] [(7, [5, 11])]
noncomputable def O_spec_DropPass_w (N : Nat) : Orc E := addFn 116 (o_spec_VolumeFault_w N) (noFn)
theorem O_spec_DropPass_w_ok (N : Nat) : OrcOk (O_spec_DropPass_w N) := addFn_ok (o_spec_VolumeFault_w_ok N) (noFn_ok)
def g_spec_DropPass_w (N : Nat) {R : Type} (b : Bool) (s : ByteArray) (n : Int) (l : List Go.Sa.KeySlot) (k : Int → Bool → ByteArray → (List Go.Sa.KeySlot) → Option R) : Option R :=
  (g_spec_VolumeFault_w N b s l fun n1 =>
  (cond (n1 != (0 : Int))
  (k (1 : Int) Bool.true (ByteArray.mk (List.toArray [])) [])
  (oK (cond (decide ((n < (0 : Int))))
      (some Bool.true)
      (some (decide ((n ≥ (((List.length l) : Nat) : Int)))))) fun j =>
    (cond j
    (k (5 : Int) Bool.true (ByteArray.mk (List.toArray [])) [])
    (cond ((((List.length l) : Nat) : Int) == (1 : Int))
      (k (6 : Int) Bool.true (ByteArray.mk (List.toArray [])) [])
      (cond ((decide (((0 : Int) ≤ n))) && (decide ((n ≤ (((List.length l) : Nat) : Int)))))
        (cond (Nat.ble (0 + ((Int.toNat n) - 0)) (List.length l))
          (cond (Go.Eng.roomOk (0 + (List.length (Go.Eng.seg l 0 ((Int.toNat n) - 0)))) 40)
            (cond (((decide (((0 : Int) ≤ (Go.IntKind.wrap Go.IntKind.i64 (n + (1 : Int)))))) && (decide (((Go.IntKind.wrap Go.IntKind.i64 (n + (1 : Int))) ≤ (((List.length l) : Nat) : Int))))) && (decide (((((List.length l) : Nat) : Int) ≤ (((List.length l) : Nat) : Int)))))
              (cond (Nat.ble ((Int.toNat (Go.IntKind.wrap Go.IntKind.i64 (n + (1 : Int)))) + ((Int.toNat (((List.length l) : Nat) : Int)) - (Int.toNat (Go.IntKind.wrap Go.IntKind.i64 (n + (1 : Int)))))) (List.length l))
                (cond (Go.Eng.roomOk ((List.length ([] ++ (Go.Eng.seg l 0 ((Int.toNat n) - 0)))) + (List.length (Go.Eng.seg l (Int.toNat (Go.IntKind.wrap Go.IntKind.i64 (n + (1 : Int)))) ((Int.toNat (((List.length l) : Nat) : Int)) - (Int.toNat (Go.IntKind.wrap Go.IntKind.i64 (n + (1 : Int)))))))) 40)
                  (k (0 : Int) (cond (Nat.beq (List.length (Go.Eng.seg l (Int.toNat (Go.IntKind.wrap Go.IntKind.i64 (n + (1 : Int)))) ((Int.toNat (((List.length l) : Nat) : Int)) - (Int.toNat (Go.IntKind.wrap Go.IntKind.i64 (n + (1 : Int))))))) 0) (cond (Nat.beq (List.length (Go.Eng.seg l 0 ((Int.toNat n) - 0))) 0) Bool.false Bool.false) Bool.false) s (([] ++ (Go.Eng.seg l 0 ((Int.toNat n) - 0))) ++ (Go.Eng.seg l (Int.toNat (Go.IntKind.wrap Go.IntKind.i64 (n + (1 : Int)))) ((Int.toNat (((List.length l) : Nat) : Int)) - (Int.toNat (Go.IntKind.wrap Go.IntKind.i64 (n + (1 : Int))))))))
                  none)
                none)
              none)
            none)
          none)
        none))))))
theorem e_spec_DropPass_w (N : Nat) {R : Type} (b : Bool) (s : ByteArray) (n : Int) (l : List Go.Sa.KeySlot) (K : AV → Hp E → Option R) :
    runFnI (E := E) (O_spec_DropPass_w N) (noIt) sl_spec_DropPass_w J_spec_DropPass_w Go.Proofs.Try.f58 [(Go.Eng.AV.agg [(Go.Eng.SV.slc 0 Option.none b), (Go.Eng.SV.str s)]), (Go.Eng.AV.sc (Go.Eng.SV.int Go.IntKind.i64 n))] [(Option.some (Go.Eng.HE.mk Bool.false (Go.Eng.HB.rows (Go.Sa.B.iKeySlot l))))] K =
      g_spec_DropPass_w N b s n l (fun n2 b1 s1 l1 => K (Go.Eng.AV.agg [(Go.Eng.SV.int Go.IntKind.i64 n2), (Go.Eng.SV.slc 1 Option.none b1), (Go.Eng.SV.str s1)]) [(Option.some (Go.Eng.HE.mk Bool.false (Go.Eng.HB.rows (Go.Sa.B.iKeySlot l)))), (Option.some (Go.Eng.HE.mk Bool.false (Go.Eng.HB.rows (Go.Sa.B.iKeySlot l1))))]) := by kernel_rfl
def o_spec_DropPass_w (N : Nat) {R : Type} (args : List AV) (H : Hp E) (K : AV → Hp E → Option R) : Option R :=
  match args, H with
  | [(Go.Eng.AV.agg [(Go.Eng.SV.slc 0 Option.none b), (Go.Eng.SV.str s)]), (Go.Eng.AV.sc (Go.Eng.SV.int Go.IntKind.i64 n))], [(Option.some (Go.Eng.HE.mk Bool.false (Go.Eng.HB.rows (Go.Sa.B.iKeySlot l))))] => g_spec_DropPass_w N b s n l (fun n2 b1 s1 l1 => K (Go.Eng.AV.agg [(Go.Eng.SV.int Go.IntKind.i64 n2), (Go.Eng.SV.slc 1 Option.none b1), (Go.Eng.SV.str s1)]) [(Option.some (Go.Eng.HE.mk Bool.false (Go.Eng.HB.rows (Go.Sa.B.iKeySlot l)))), (Option.some (Go.Eng.HE.mk Bool.false (Go.Eng.HB.rows (Go.Sa.B.iKeySlot l1))))])
  | _, _ => none
theorem o_spec_DropPass_w_ok (N : Nat) : FnOk E 58 (o_spec_DropPass_w N) := by
  intro R args H K r h
  unfold o_spec_DropPass_w at h
  dsimp only at h
  split at h
  · exact fnB_ok (ids := []) (top := []) ok (O_spec_DropPass_w_ok N) (jn_ok _ _ _) Go.Proofs.Try.func58 (by kernel_rfl) (IT := noIt) (sl := sl_spec_DropPass_w) (J := J_spec_DropPass_w) (K := K) (H := [(Option.some (Go.Eng.HE.mk Bool.false (Go.Eng.HB.rows (Go.Sa.B.iKeySlot _))))]) (noIt_ok) (by kernel_rfl) rfl ((e_spec_DropPass_w N _ _ _ _ K).trans h)
  · cases h
/-! ### loop.example/g00038/impl.yin -/
abbrev sl_impl_yin : SlotT := []
abbrev J_impl_yin : JT := jn [(1, [(6, .b)])] [] []
noncomputable def O_impl_yin (N : Nat) : Orc E := noFn
theorem O_impl_yin_ok (N : Nat) : OrcOk (O_impl_yin N) := noFn_ok
def g_impl_yin (N : Nat) {R : Type} (n : Int) (n1 : Int) (n2 : Int) (k : Bool → Option R) : Option R :=
  (oK (cond (decide ((n ≥ n1)))
    (some (decide ((n ≤ n2))))
    (some Bool.false)) fun j =>
  (k j))
theorem e_impl_yin (N : Nat) {R : Type} (n : Int) (n1 : Int) (n2 : Int) (K : AV → Hp E → Option R) :
    runFnI (E := E) (O_impl_yin N) (noIt) sl_impl_yin J_impl_yin Go.Proofs.Try.f71 [(Go.Eng.AV.sc (Go.Eng.SV.int Go.IntKind.i64 n)), (Go.Eng.AV.sc (Go.Eng.SV.int Go.IntKind.i64 n1)), (Go.Eng.AV.sc (Go.Eng.SV.int Go.IntKind.i64 n2))] [] K =
      g_impl_yin N n n1 n2 (fun b => K (Go.Eng.AV.sc (Go.Eng.SV.bool b)) []) := by kernel_rfl
def o_impl_yin (N : Nat) {R : Type} (args : List AV) (H : Hp E) (K : AV → Hp E → Option R) : Option R :=
  match args, H with
  | [(Go.Eng.AV.sc (Go.Eng.SV.int Go.IntKind.i64 n)), (Go.Eng.AV.sc (Go.Eng.SV.int Go.IntKind.i64 n1)), (Go.Eng.AV.sc (Go.Eng.SV.int Go.IntKind.i64 n2))], [] => g_impl_yin N n n1 n2 (fun b => K (Go.Eng.AV.sc (Go.Eng.SV.bool b)) [])
  | _, _ => none
theorem o_impl_yin_ok (N : Nat) : FnOk E 71 (o_impl_yin N) := by
  intro R args H K r h
  unfold o_impl_yin at h
  dsimp only at h
  split at h
  · exact fnB_ok (ids := []) (top := []) ok (O_impl_yin_ok N) (jn_ok _ _ _) Go.Proofs.Try.func71 (by kernel_rfl) (IT := noIt) (sl := sl_impl_yin) (J := J_impl_yin) (K := K) (H := []) (noIt_ok) (by kernel_rfl) rfl ((e_impl_yin N _ _ _ K).trans h)
  · cases h
/-! ### loop.example/g00038/impl.yisWord -/
abbrev sl_impl_yisWord : SlotT := []
abbrev J_impl_yisWord : JT := jn [(1, [(2, .b)])] [] []
noncomputable def O_impl_yisWord (N : Nat) : Orc E := noFn
theorem O_impl_yisWord_ok (N : Nat) : OrcOk (O_impl_yisWord N) := noFn_ok
def g_impl_yisWord (N : Nat) {R : Type} (n : Int) (k : Bool → Option R) : Option R :=
  (oK (cond (decide ((n ≥ (0 : Int))))
    (some (decide ((n < (4294967296 : Int)))))
    (some Bool.false)) fun j =>
  (k j))
theorem e_impl_yisWord (N : Nat) {R : Type} (n : Int) (K : AV → Hp E → Option R) :
    runFnI (E := E) (O_impl_yisWord N) (noIt) sl_impl_yisWord J_impl_yisWord Go.Proofs.Try.f75 [(Go.Eng.AV.sc (Go.Eng.SV.int Go.IntKind.i64 n))] [] K =
      g_impl_yisWord N n (fun b => K (Go.Eng.AV.sc (Go.Eng.SV.bool b)) []) := by kernel_rfl
def o_impl_yisWord (N : Nat) {R : Type} (args : List AV) (H : Hp E) (K : AV → Hp E → Option R) : Option R :=
  match args, H with
  | [(Go.Eng.AV.sc (Go.Eng.SV.int Go.IntKind.i64 n))], [] => g_impl_yisWord N n (fun b => K (Go.Eng.AV.sc (Go.Eng.SV.bool b)) [])
  | _, _ => none
theorem o_impl_yisWord_ok (N : Nat) : FnOk E 75 (o_impl_yisWord N) := by
  intro R args H K r h
  unfold o_impl_yisWord at h
  dsimp only at h
  split at h
  · exact fnB_ok (ids := []) (top := []) ok (O_impl_yisWord_ok N) (jn_ok _ _ _) Go.Proofs.Try.func75 (by kernel_rfl) (IT := noIt) (sl := sl_impl_yisWord) (J := J_impl_yisWord) (K := K) (H := []) (noIt_ok) (by kernel_rfl) rfl ((e_impl_yisWord N _ K).trans h)
  · cases h
/-! ### loop.example/g00038/impl.VolumeFault$1 -/
abbrev sl_impl_VolumeFault_1 : SlotT := []
abbrev J_impl_VolumeFault_1 : JT := jn [(1, [(2, .b)])] [] []
noncomputable def O_impl_VolumeFault_1 (N : Nat) : Orc E := addFn 75 (o_impl_yisWord N) (noFn)
theorem O_impl_VolumeFault_1_ok (N : Nat) : OrcOk (O_impl_VolumeFault_1 N) := addFn_ok (o_impl_yisWord_ok N) (noFn_ok)
def g_impl_VolumeFault_1 (N : Nat) {R : Type} (n : Int) (s : ByteArray) (s1 : ByteArray) (k : Bool → Option R) : Option R :=
  (oK (g_impl_yisWord N n fun b =>
    (cond (!b)
    (some Bool.true)
    (cond ((((ByteArray.size s) : Nat) : Int) != (16 : Int))
      (some Bool.true)
      (some ((((ByteArray.size s1) : Nat) : Int) != (8 : Int)))))) fun j =>
  (k j))
theorem e_impl_VolumeFault_1 (N : Nat) {R : Type} (n : Int) (s : ByteArray) (s1 : ByteArray) (K : AV → Hp E → Option R) :
    runFnI (E := E) (O_impl_VolumeFault_1 N) (noIt) sl_impl_VolumeFault_1 J_impl_VolumeFault_1 Go.Proofs.Try.f152 [(Go.Eng.AV.agg [(Go.Eng.SV.int Go.IntKind.i64 n), (Go.Eng.SV.str s), (Go.Eng.SV.str s1)])] [] K =
      g_impl_VolumeFault_1 N n s s1 (fun b1 => K (Go.Eng.AV.sc (Go.Eng.SV.bool b1)) []) := by kernel_rfl
def o_impl_VolumeFault_1 (N : Nat) {R : Type} (args : List AV) (H : Hp E) (K : AV → Hp E → Option R) : Option R :=
  match args, H with
  | [(Go.Eng.AV.agg [(Go.Eng.SV.int Go.IntKind.i64 n), (Go.Eng.SV.str s), (Go.Eng.SV.str s1)])], [] => g_impl_VolumeFault_1 N n s s1 (fun b1 => K (Go.Eng.AV.sc (Go.Eng.SV.bool b1)) [])
  | _, _ => none
theorem o_impl_VolumeFault_1_ok (N : Nat) : FnOk E 152 (o_impl_VolumeFault_1 N) := by
  intro R args H K r h
  unfold o_impl_VolumeFault_1 at h
  dsimp only at h
  split at h
  · exact fnB_ok (ids := []) (top := []) ok (O_impl_VolumeFault_1_ok N) (jn_ok _ _ _) Go.Proofs.Try.func152 (by kernel_rfl) (IT := noIt) (sl := sl_impl_VolumeFault_1) (J := J_impl_VolumeFault_1) (K := K) (H := []) (noIt_ok) (by kernel_rfl) rfl ((e_impl_VolumeFault_1 N _ _ _ K).trans h)
  · cases h
/-! ### slices.IndexFunc[[]loop.example/g00038/impl.KeySlot,loop.example/g00038/impl.KeySlot] -/
abbrev sl_slices_IndexFunc_KeySlot_Fimpl_VolumeFault_1_r : SlotT := [(0, ([0, 1, 7, 8], [4]))]
abbrev J_slices_IndexFunc_KeySlot_Fimpl_VolumeFault_1_r : JT := jn [] [] []
noncomputable def O_slices_IndexFunc_KeySlot_Fimpl_VolumeFault_1_r (N : Nat) : Orc E := addFn 152 (o_impl_VolumeFault_1 N) (noFn)
theorem O_slices_IndexFunc_KeySlot_Fimpl_VolumeFault_1_r_ok (N : Nat) : OrcOk (O_slices_IndexFunc_KeySlot_Fimpl_VolumeFault_1_r N) := addFn_ok (o_impl_VolumeFault_1_ok N) (noFn_ok)
def s_slices_IndexFunc_KeySlot_Fimpl_VolumeFault_1_r_0 (N : Nat) {R : Type} (b1 : Bool) (n : Int) (l1 : List Go.Sa.KeySlot) (n1 : Int) (ag : Int → Option R)  (kR : Int → Option R) (kN : Option R) : Option R :=
  (cond (decide ((n1 < n)))
  (cond ((decide (((0 : Int) ≤ n1))) && (decide ((n1 < (((List.length l1) : Nat) : Int)))))
    (elemK l1 (Int.toNat n1) fun x =>
      (g_impl_VolumeFault_1 N (Go.Sa.KeySlot.fSalt x) (Go.Sa.KeySlot.fKey x) (Go.Sa.KeySlot.fTag x) fun b2 =>
      (cond b2
      (kR n1)
      (ag (Go.IntKind.wrap Go.IntKind.i64 (n1 + (1 : Int)))))))
    none)
  kN)
def l_slices_IndexFunc_KeySlot_Fimpl_VolumeFault_1_r_0 (N : Nat) {R : Type} (b1 : Bool) (n : Int) (l1 : List Go.Sa.KeySlot) (kR : Int → Option R) (kN : Option R) : Nat → Int → Option R
  | 0, _ => none
  | f + 1, n1 => s_slices_IndexFunc_KeySlot_Fimpl_VolumeFault_1_r_0 N b1 n l1 n1 (fun n1 => l_slices_IndexFunc_KeySlot_Fimpl_VolumeFault_1_r_0 N b1 n l1 kR kN f n1)  kR kN
def c_slices_IndexFunc_KeySlot_Fimpl_VolumeFault_1_r_0 (N : Nat) {R : Type} (b1 : Bool) (n : Int) (l1 : List Go.Sa.KeySlot) (n1 : Int) (kR : Int → Option R) (kN : Option R) : Option R := l_slices_IndexFunc_KeySlot_Fimpl_VolumeFault_1_r_0 N b1 n l1 kR kN N n1
theorem se_slices_IndexFunc_KeySlot_Fimpl_VolumeFault_1_r_0 (N : Nat) {R : Type} (b1 : Bool) (n : Int) (l1 : List Go.Sa.KeySlot) (n1 : Int) (AG : List (Option AV) → Hp E → Option R) (KL : Ex → List (Option AV) → Hp E → Option R) :
    iterStep (E := E) (O_slices_IndexFunc_KeySlot_Fimpl_VolumeFault_1_r N) (fun {R} => LI (noIt) 1 19 sl_slices_IndexFunc_KeySlot_Fimpl_VolumeFault_1_r (R := R)) J_slices_IndexFunc_KeySlot_Fimpl_VolumeFault_1_r 1 19 0 [0, 1, 7, 8] [4] (body Go.Proofs.Try.f164 0) AG KL [(Option.some (Go.Eng.AV.sc (Go.Eng.SV.slc 0 Option.none b1))), (Option.some (Go.Eng.AV.sc (Go.Eng.SV.fn 152 []))), (Option.some (Go.Eng.AV.sc (Go.Eng.SV.int Go.IntKind.i64 n))), (Option.some (Go.Eng.AV.sc (Go.Eng.SV.int Go.IntKind.i64 n1)))] [(Option.some (Go.Eng.HE.mk Bool.true (Go.Eng.HB.rows (Go.Sa.B.iKeySlot l1))))] =
      s_slices_IndexFunc_KeySlot_Fimpl_VolumeFault_1_r_0 N b1 n l1 n1 (fun n1 => AG [(Option.some (Go.Eng.AV.sc (Go.Eng.SV.slc 0 Option.none b1))), (Option.some (Go.Eng.AV.sc (Go.Eng.SV.fn 152 []))), (Option.some (Go.Eng.AV.sc (Go.Eng.SV.int Go.IntKind.i64 n))), (Option.some (Go.Eng.AV.sc (Go.Eng.SV.int Go.IntKind.i64 n1)))] [(Option.some (Go.Eng.HE.mk Bool.true (Go.Eng.HB.rows (Go.Sa.B.iKeySlot l1))))])  (fun n4 => KL Go.Eng.Ex.ret [(Option.some (Go.Eng.AV.sc (Go.Eng.SV.int Go.IntKind.i64 n4)))] [(Option.some (Go.Eng.HE.mk Bool.true (Go.Eng.HB.rows (Go.Sa.B.iKeySlot l1))))]) (KL Go.Eng.Ex.normal [Option.none] [(Option.some (Go.Eng.HE.mk Bool.true (Go.Eng.HB.rows (Go.Sa.B.iKeySlot l1))))]) := by kernel_rfl
theorem le_slices_IndexFunc_KeySlot_Fimpl_VolumeFault_1_r_0 (N : Nat) {R : Type} (b1 : Bool) (n : Int) (l1 : List Go.Sa.KeySlot) (KL : Ex → List (Option AV) → Hp E → Option R) : ∀ (f : Nat), ∀ (n1 : Int), iterK (E := E) (O_slices_IndexFunc_KeySlot_Fimpl_VolumeFault_1_r N) (fun {R} => LI (noIt) 1 19 sl_slices_IndexFunc_KeySlot_Fimpl_VolumeFault_1_r (R := R)) J_slices_IndexFunc_KeySlot_Fimpl_VolumeFault_1_r 1 19 0 [0, 1, 7, 8] [4] (body Go.Proofs.Try.f164 0) f [(Option.some (Go.Eng.AV.sc (Go.Eng.SV.slc 0 Option.none b1))), (Option.some (Go.Eng.AV.sc (Go.Eng.SV.fn 152 []))), (Option.some (Go.Eng.AV.sc (Go.Eng.SV.int Go.IntKind.i64 n))), (Option.some (Go.Eng.AV.sc (Go.Eng.SV.int Go.IntKind.i64 n1)))] [(Option.some (Go.Eng.HE.mk Bool.true (Go.Eng.HB.rows (Go.Sa.B.iKeySlot l1))))] KL = l_slices_IndexFunc_KeySlot_Fimpl_VolumeFault_1_r_0 N b1 n l1 (fun n4 => KL Go.Eng.Ex.ret [(Option.some (Go.Eng.AV.sc (Go.Eng.SV.int Go.IntKind.i64 n4)))] [(Option.some (Go.Eng.HE.mk Bool.true (Go.Eng.HB.rows (Go.Sa.B.iKeySlot l1))))]) (KL Go.Eng.Ex.normal [Option.none] [(Option.some (Go.Eng.HE.mk Bool.true (Go.Eng.HB.rows (Go.Sa.B.iKeySlot l1))))]) f n1 := by
  intro f
  induction f with
  | zero => intros; rfl
  | succ f ih =>
    intro n1
    rw [iterK_succ, se_slices_IndexFunc_KeySlot_Fimpl_VolumeFault_1_r_0]
    exact (congrArg (fun z0 => s_slices_IndexFunc_KeySlot_Fimpl_VolumeFault_1_r_0 N b1 n l1 n1 z0 (fun n4 => KL Go.Eng.Ex.ret [(Option.some (Go.Eng.AV.sc (Go.Eng.SV.int Go.IntKind.i64 n4)))] [(Option.some (Go.Eng.HE.mk Bool.true (Go.Eng.HB.rows (Go.Sa.B.iKeySlot l1))))]) (KL Go.Eng.Ex.normal [Option.none] [(Option.some (Go.Eng.HE.mk Bool.true (Go.Eng.HB.rows (Go.Sa.B.iKeySlot l1))))])) (funext fun n1 => ih n1))
def i_slices_IndexFunc_KeySlot_Fimpl_VolumeFault_1_r_0 (N : Nat) {R : Type} (vs : List (Option AV)) (H : Hp E) (KL : Ex → List (Option AV) → Hp E → Option R) : Option R :=
  match vs, H with
  | [(Option.some (Go.Eng.AV.sc (Go.Eng.SV.slc 0 Option.none b1))), (Option.some (Go.Eng.AV.sc (Go.Eng.SV.fn 152 []))), (Option.some (Go.Eng.AV.sc (Go.Eng.SV.int Go.IntKind.i64 n))), (Option.some (Go.Eng.AV.sc (Go.Eng.SV.int Go.IntKind.i64 n1)))], [(Option.some (Go.Eng.HE.mk Bool.true (Go.Eng.HB.rows (Go.Sa.B.iKeySlot l1))))] => c_slices_IndexFunc_KeySlot_Fimpl_VolumeFault_1_r_0 N b1 n l1 n1 (fun n5 => KL Go.Eng.Ex.ret [(Option.some (Go.Eng.AV.sc (Go.Eng.SV.int Go.IntKind.i64 n5)))] [(Option.some (Go.Eng.HE.mk Bool.true (Go.Eng.HB.rows (Go.Sa.B.iKeySlot l1))))]) (KL Go.Eng.Ex.normal [Option.none] [(Option.some (Go.Eng.HE.mk Bool.true (Go.Eng.HB.rows (Go.Sa.B.iKeySlot l1))))])
  | _, _ => none
noncomputable def IT_slices_IndexFunc_KeySlot_Fimpl_VolumeFault_1_r_0 (N : Nat) : Its E := addIt 0 (i_slices_IndexFunc_KeySlot_Fimpl_VolumeFault_1_r_0 N) (noIt)
theorem IT_slices_IndexFunc_KeySlot_Fimpl_VolumeFault_1_r_0_ok (N : Nat) : ItOk (IT_slices_IndexFunc_KeySlot_Fimpl_VolumeFault_1_r_0 N) 1 19 sl_slices_IndexFunc_KeySlot_Fimpl_VolumeFault_1_r (lsB Go.Proofs.Try.f164 [0]) :=
  addItB_ok (inner := []) ok (O_slices_IndexFunc_KeySlot_Fimpl_VolumeFault_1_r_ok N) (jn_ok _ _ _) (noIt_ok) rfl (by kernel_rfl) rfl fun vs H KL r h => by
    unfold i_slices_IndexFunc_KeySlot_Fimpl_VolumeFault_1_r_0 at h
    split at h
    · exact ⟨_, (le_slices_IndexFunc_KeySlot_Fimpl_VolumeFault_1_r_0 N _ _ _ KL N _).trans h⟩
    · cases h
def g_slices_IndexFunc_KeySlot_Fimpl_VolumeFault_1_r (N : Nat) {R : Type} (b : Bool) (l : List Go.Sa.KeySlot) (k : Int → Option R) : Option R :=
  (c_slices_IndexFunc_KeySlot_Fimpl_VolumeFault_1_r_0 N b (((List.length l) : Nat) : Int) l (0 : Int) (fun n2 =>
  (k n2)) (
  (k (-(1 : Int)))))
theorem e_slices_IndexFunc_KeySlot_Fimpl_VolumeFault_1_r (N : Nat) {R : Type} (b : Bool) (l : List Go.Sa.KeySlot) (K : AV → Hp E → Option R) :
    runFnI (E := E) (O_slices_IndexFunc_KeySlot_Fimpl_VolumeFault_1_r N) (IT_slices_IndexFunc_KeySlot_Fimpl_VolumeFault_1_r_0 N) sl_slices_IndexFunc_KeySlot_Fimpl_VolumeFault_1_r J_slices_IndexFunc_KeySlot_Fimpl_VolumeFault_1_r Go.Proofs.Try.f164 [(Go.Eng.AV.sc (Go.Eng.SV.slc 0 Option.none b)), (Go.Eng.AV.sc (Go.Eng.SV.fn 152 []))] [(Option.some (Go.Eng.HE.mk Bool.true (Go.Eng.HB.rows (Go.Sa.B.iKeySlot l))))] K =
      g_slices_IndexFunc_KeySlot_Fimpl_VolumeFault_1_r N b l (fun n3 => K (Go.Eng.AV.sc (Go.Eng.SV.int Go.IntKind.i64 n3)) [(Option.some (Go.Eng.HE.mk Bool.true (Go.Eng.HB.rows (Go.Sa.B.iKeySlot l))))]) := by kernel_rfl
def o_slices_IndexFunc_KeySlot_Fimpl_VolumeFault_1_r (N : Nat) {R : Type} (args : List AV) (H : Hp E) (K : AV → Hp E → Option R) : Option R :=
  match args, H with
  | [(Go.Eng.AV.sc (Go.Eng.SV.slc 0 Option.none b)), (Go.Eng.AV.sc (Go.Eng.SV.fn 152 []))], [(Option.some (Go.Eng.HE.mk Bool.true (Go.Eng.HB.rows (Go.Sa.B.iKeySlot l))))] => g_slices_IndexFunc_KeySlot_Fimpl_VolumeFault_1_r N b l (fun n3 => K (Go.Eng.AV.sc (Go.Eng.SV.int Go.IntKind.i64 n3)) [(Option.some (Go.Eng.HE.mk Bool.true (Go.Eng.HB.rows (Go.Sa.B.iKeySlot l))))])
  | _, _ => none
theorem o_slices_IndexFunc_KeySlot_Fimpl_VolumeFault_1_r_ok (N : Nat) : FnOk E 164 (o_slices_IndexFunc_KeySlot_Fimpl_VolumeFault_1_r N) := by
  intro R args H K r h
  unfold o_slices_IndexFunc_KeySlot_Fimpl_VolumeFault_1_r at h
  dsimp only at h
  split at h
  · exact fnB_ok (ids := [0]) (top := [0]) ok (O_slices_IndexFunc_KeySlot_Fimpl_VolumeFault_1_r_ok N) (jn_ok _ _ _) Go.Proofs.Try.func164 (by kernel_rfl) (IT := IT_slices_IndexFunc_KeySlot_Fimpl_VolumeFault_1_r_0 N) (sl := sl_slices_IndexFunc_KeySlot_Fimpl_VolumeFault_1_r) (J := J_slices_IndexFunc_KeySlot_Fimpl_VolumeFault_1_r) (K := K) (H := [(Option.some (Go.Eng.HE.mk Bool.true (Go.Eng.HB.rows (Go.Sa.B.iKeySlot _))))]) (IT_slices_IndexFunc_KeySlot_Fimpl_VolumeFault_1_r_0_ok N) (by kernel_rfl) rfl ((e_slices_IndexFunc_KeySlot_Fimpl_VolumeFault_1_r N _ _ K).trans h)
  · cases h
/-! ### slices.ContainsFunc[[]loop.example/g00038/impl.KeySlot,loop.example/g00038/impl.KeySlot] -/
abbrev sl_slices_ContainsFunc_KeySlot_Fimpl_VolumeFault_1_r : SlotT := []
abbrev J_slices_ContainsFunc_KeySlot_Fimpl_VolumeFault_1_r : JT := jn [] [] []
noncomputable def O_slices_ContainsFunc_KeySlot_Fimpl_VolumeFault_1_r (N : Nat) : Orc E := addFn 164 (o_slices_IndexFunc_KeySlot_Fimpl_VolumeFault_1_r N) (noFn)
theorem O_slices_ContainsFunc_KeySlot_Fimpl_VolumeFault_1_r_ok (N : Nat) : OrcOk (O_slices_ContainsFunc_KeySlot_Fimpl_VolumeFault_1_r N) := addFn_ok (o_slices_IndexFunc_KeySlot_Fimpl_VolumeFault_1_r_ok N) (noFn_ok)
def g_slices_ContainsFunc_KeySlot_Fimpl_VolumeFault_1_r (N : Nat) {R : Type} (b : Bool) (l : List Go.Sa.KeySlot) (k : Bool → Option R) : Option R :=
  (g_slices_IndexFunc_KeySlot_Fimpl_VolumeFault_1_r N b l fun n =>
  (k (decide ((n ≥ (0 : Int))))))
theorem e_slices_ContainsFunc_KeySlot_Fimpl_VolumeFault_1_r (N : Nat) {R : Type} (b : Bool) (l : List Go.Sa.KeySlot) (K : AV → Hp E → Option R) :
    runFnI (E := E) (O_slices_ContainsFunc_KeySlot_Fimpl_VolumeFault_1_r N) (noIt) sl_slices_ContainsFunc_KeySlot_Fimpl_VolumeFault_1_r J_slices_ContainsFunc_KeySlot_Fimpl_VolumeFault_1_r Go.Proofs.Try.f151 [(Go.Eng.AV.sc (Go.Eng.SV.slc 0 Option.none b)), (Go.Eng.AV.sc (Go.Eng.SV.fn 152 []))] [(Option.some (Go.Eng.HE.mk Bool.true (Go.Eng.HB.rows (Go.Sa.B.iKeySlot l))))] K =
      g_slices_ContainsFunc_KeySlot_Fimpl_VolumeFault_1_r N b l (fun b1 => K (Go.Eng.AV.sc (Go.Eng.SV.bool b1)) [(Option.some (Go.Eng.HE.mk Bool.true (Go.Eng.HB.rows (Go.Sa.B.iKeySlot l))))]) := by kernel_rfl
def o_slices_ContainsFunc_KeySlot_Fimpl_VolumeFault_1_r (N : Nat) {R : Type} (args : List AV) (H : Hp E) (K : AV → Hp E → Option R) : Option R :=
  match args, H with
  | [(Go.Eng.AV.sc (Go.Eng.SV.slc 0 Option.none b)), (Go.Eng.AV.sc (Go.Eng.SV.fn 152 []))], [(Option.some (Go.Eng.HE.mk Bool.true (Go.Eng.HB.rows (Go.Sa.B.iKeySlot l))))] => g_slices_ContainsFunc_KeySlot_Fimpl_VolumeFault_1_r N b l (fun b1 => K (Go.Eng.AV.sc (Go.Eng.SV.bool b1)) [(Option.some (Go.Eng.HE.mk Bool.true (Go.Eng.HB.rows (Go.Sa.B.iKeySlot l))))])
  | _, _ => none
theorem o_slices_ContainsFunc_KeySlot_Fimpl_VolumeFault_1_r_ok (N : Nat) : FnOk E 151 (o_slices_ContainsFunc_KeySlot_Fimpl_VolumeFault_1_r N) := by
  intro R args H K r h
  unfold o_slices_ContainsFunc_KeySlot_Fimpl_VolumeFault_1_r at h
  dsimp only at h
  split at h
  · exact fnB_ok (ids := []) (top := []) ok (O_slices_ContainsFunc_KeySlot_Fimpl_VolumeFault_1_r_ok N) (jn_ok _ _ _) Go.Proofs.Try.func151 (by kernel_rfl) (IT := noIt) (sl := sl_slices_ContainsFunc_KeySlot_Fimpl_VolumeFault_1_r) (J := J_slices_ContainsFunc_KeySlot_Fimpl_VolumeFault_1_r) (K := K) (H := [(Option.some (Go.Eng.HE.mk Bool.true (Go.Eng.HB.rows (Go.Sa.B.iKeySlot _))))]) (noIt_ok) (by kernel_rfl) rfl ((e_slices_ContainsFunc_KeySlot_Fimpl_VolumeFault_1_r N _ _ K).trans h)
  · cases h
/-! ### loop.example/g00038/impl.VolumeFault -/
abbrev sl_impl_VolumeFault_w : SlotT := []
abbrev J_impl_VolumeFault_w : JT := jn [(1, [(18, .b)])] [] []
noncomputable def O_impl_VolumeFault_w (N : Nat) : Orc E := addFn 151 (o_slices_ContainsFunc_KeySlot_Fimpl_VolumeFault_1_r N) (addFn 71 (o_impl_yin N) (noFn))
theorem O_impl_VolumeFault_w_ok (N : Nat) : OrcOk (O_impl_VolumeFault_w N) := addFn_ok (o_slices_ContainsFunc_KeySlot_Fimpl_VolumeFault_1_r_ok N) (addFn_ok (o_impl_yin_ok N) (noFn_ok))
def g_impl_VolumeFault_w (N : Nat) {R : Type} (b : Bool) (s : ByteArray) (l : List Go.Sa.KeySlot) (k : Int → Option R) : Option R :=
  (oK (g_impl_yin N (((List.length l) : Nat) : Int) (1 : Int) (4 : Int) fun b1 =>
    (cond (!b1)
    (some Bool.true)
    (cond ((((ByteArray.size s) : Nat) : Int) != (8 : Int))
      (some Bool.true)
      (g_slices_ContainsFunc_KeySlot_Fimpl_VolumeFault_1_r N b l fun b2 =>
        (some b2))))) fun j =>
  (cond j
  (k (1 : Int))
  (k (0 : Int))))
theorem e_impl_VolumeFault_w (N : Nat) {R : Type} (b : Bool) (s : ByteArray) (l : List Go.Sa.KeySlot) (K : AV → Hp E → Option R) :
    runFnI (E := E) (O_impl_VolumeFault_w N) (noIt) sl_impl_VolumeFault_w J_impl_VolumeFault_w Go.Proofs.Try.f118 [(Go.Eng.AV.agg [(Go.Eng.SV.slc 0 Option.none b), (Go.Eng.SV.str s)])] [(Option.some (Go.Eng.HE.mk Bool.false (Go.Eng.HB.rows (Go.Sa.B.iKeySlot l))))] K =
      g_impl_VolumeFault_w N b s l (fun n => K (Go.Eng.AV.sc (Go.Eng.SV.int Go.IntKind.i64 n)) [(Option.some (Go.Eng.HE.mk Bool.false (Go.Eng.HB.rows (Go.Sa.B.iKeySlot l))))]) := by kernel_rfl
def o_impl_VolumeFault_w (N : Nat) {R : Type} (args : List AV) (H : Hp E) (K : AV → Hp E → Option R) : Option R :=
  match args, H with
  | [(Go.Eng.AV.agg [(Go.Eng.SV.slc 0 Option.none b), (Go.Eng.SV.str s)])], [(Option.some (Go.Eng.HE.mk Bool.false (Go.Eng.HB.rows (Go.Sa.B.iKeySlot l))))] => g_impl_VolumeFault_w N b s l (fun n => K (Go.Eng.AV.sc (Go.Eng.SV.int Go.IntKind.i64 n)) [(Option.some (Go.Eng.HE.mk Bool.false (Go.Eng.HB.rows (Go.Sa.B.iKeySlot l))))])
  | _, _ => none
theorem o_impl_VolumeFault_w_ok (N : Nat) : FnOk E 118 (o_impl_VolumeFault_w N) := by
  intro R args H K r h
  unfold o_impl_VolumeFault_w at h
  dsimp only at h
  split at h
  · exact fnB_ok (ids := []) (top := []) ok (O_impl_VolumeFault_w_ok N) (jn_ok _ _ _) Go.Proofs.Try.func118 (by kernel_rfl) (IT := noIt) (sl := sl_impl_VolumeFault_w) (J := J_impl_VolumeFault_w) (K := K) (H := [(Option.some (Go.Eng.HE.mk Bool.false (Go.Eng.HB.rows (Go.Sa.B.iKeySlot _))))]) (noIt_ok) (by kernel_rfl) rfl ((e_impl_VolumeFault_w N _ _ _ K).trans h)
  · cases h
/-! ### slices.Clone[[]loop.example/g00038/impl.KeySlot,loop.example/g00038/impl.KeySlot] -/
abbrev sl_slices_Clone_KeySlot_r : SlotT := []
abbrev J_slices_Clone_KeySlot_r : JT := jn [] [] []
noncomputable def O_slices_Clone_KeySlot_r (N : Nat) : Orc E := noFn
theorem O_slices_Clone_KeySlot_r_ok (N : Nat) : OrcOk (O_slices_Clone_KeySlot_r N) := noFn_ok
def g_slices_Clone_KeySlot_r (N : Nat) {R : Type} (b : Bool) (l : List Go.Sa.KeySlot) (k : Bool → (List Go.Sa.KeySlot) → Option R) : Option R :=
  (cond b
  (k Bool.true [])
  (cond (Go.Eng.roomOk (0 + (List.length l)) 40)
    (k (cond (Nat.beq (List.length l) 0) Bool.false Bool.false) ([] ++ l))
    none))
theorem e_slices_Clone_KeySlot_r (N : Nat) {R : Type} (b : Bool) (l : List Go.Sa.KeySlot) (K : AV → Hp E → Option R) :
    runFnI (E := E) (O_slices_Clone_KeySlot_r N) (noIt) sl_slices_Clone_KeySlot_r J_slices_Clone_KeySlot_r Go.Proofs.Try.f120 [(Go.Eng.AV.sc (Go.Eng.SV.slc 0 Option.none b))] [(Option.some (Go.Eng.HE.mk Bool.true (Go.Eng.HB.rows (Go.Sa.B.iKeySlot l))))] K =
      g_slices_Clone_KeySlot_r N b l (fun b1 l1 => K (Go.Eng.AV.sc (Go.Eng.SV.slc 1 Option.none b1)) [(Option.some (Go.Eng.HE.mk Bool.true (Go.Eng.HB.rows (Go.Sa.B.iKeySlot l)))), (Option.some (Go.Eng.HE.mk Bool.false (Go.Eng.HB.rows (Go.Sa.B.iKeySlot l1))))]) := by kernel_rfl
def o_slices_Clone_KeySlot_r (N : Nat) {R : Type} (args : List AV) (H : Hp E) (K : AV → Hp E → Option R) : Option R :=
  match args, H with
  | [(Go.Eng.AV.sc (Go.Eng.SV.slc 0 Option.none b))], [(Option.some (Go.Eng.HE.mk Bool.true (Go.Eng.HB.rows (Go.Sa.B.iKeySlot l))))] => g_slices_Clone_KeySlot_r N b l (fun b1 l1 => K (Go.Eng.AV.sc (Go.Eng.SV.slc 1 Option.none b1)) [(Option.some (Go.Eng.HE.mk Bool.true (Go.Eng.HB.rows (Go.Sa.B.iKeySlot l)))), (Option.some (Go.Eng.HE.mk Bool.false (Go.Eng.HB.rows (Go.Sa.B.iKeySlot l1))))])
  | _, _ => none
theorem o_slices_Clone_KeySlot_r_ok (N : Nat) : FnOk E 120 (o_slices_Clone_KeySlot_r N) := by
  intro R args H K r h
  unfold o_slices_Clone_KeySlot_r at h
  dsimp only at h
  split at h
  · exact fnB_ok (ids := []) (top := []) ok (O_slices_Clone_KeySlot_r_ok N) (jn_ok _ _ _) Go.Proofs.Try.func120 (by kernel_rfl) (IT := noIt) (sl := sl_slices_Clone_KeySlot_r) (J := J_slices_Clone_KeySlot_r) (K := K) (H := [(Option.some (Go.Eng.HE.mk Bool.true (Go.Eng.HB.rows (Go.Sa.B.iKeySlot _))))]) (noIt_ok) (by kernel_rfl) rfl ((e_slices_Clone_KeySlot_r N _ _ K).trans h)
  · cases h
/-! ### slices.Delete[[]loop.example/g00038/impl.KeySlot,loop.example/g00038/impl.KeySlot] -/
abbrev sl_slices_Delete_KeySlot_w : SlotT := []
abbrev J_slices_Delete_KeySlot_w : JT := jn [] [] [(5, [6])]
noncomputable def O_slices_Delete_KeySlot_w (N : Nat) : Orc E := noFn
theorem O_slices_Delete_KeySlot_w_ok (N : Nat) : OrcOk (O_slices_Delete_KeySlot_w N) := noFn_ok
def g_slices_Delete_KeySlot_w (N : Nat) {R : Type} (b : Bool) (n : Int) (n1 : Int) (l : List Go.Sa.KeySlot) (k : Option R) (k_1 : Nat → Nat → (List Go.Sa.KeySlot) → Option R) : Option R :=
  (cond ((((decide (((0 : Int) ≤ n))) && (decide ((n ≤ n1)))) && (decide ((n1 ≤ (((List.length l) : Nat) : Int))))) && (decide (((((List.length l) : Nat) : Int) ≤ (((List.length l) : Nat) : Int)))))
  (cond (n == n1)
    k
    (cond ((decide (((0 : Int) ≤ n))) && (decide ((n ≤ (((List.length l) : Nat) : Int)))))
      (cond (((decide (((0 : Int) ≤ n1))) && (decide ((n1 ≤ (((List.length l) : Nat) : Int))))) && (decide (((((List.length l) : Nat) : Int) ≤ (((List.length l) : Nat) : Int)))))
        (cond (Nat.ble ((Int.toNat n1) + ((Int.toNat (((List.length l) : Nat) : Int)) - (Int.toNat n1))) (List.length l))
          (cond (Nat.ble (List.length (Go.Eng.seg l (Int.toNat n1) ((Int.toNat (((List.length l) : Nat) : Int)) - (Int.toNat n1)))) ((List.length l) - (Int.toNat n)))
            (cond (Nat.ble ((0 + ((Int.toNat n) - 0)) + (List.length (Go.Eng.seg l (Int.toNat n1) ((Int.toNat (((List.length l) : Nat) : Int)) - (Int.toNat n1))))) (List.length l))
              (cond ((decide (((((((Int.toNat n) - 0) + (List.length (Go.Eng.seg l (Int.toNat n1) ((Int.toNat (((List.length l) : Nat) : Int)) - (Int.toNat n1))))) : Nat) : Int) ≤ (((List.length l) : Nat) : Int)))) && (decide (((((List.length l) : Nat) : Int) ≤ ((((((Int.toNat n) - 0) + (List.length (Go.Eng.seg l (Int.toNat n1) ((Int.toNat (((List.length l) : Nat) : Int)) - (Int.toNat n1))))) + (((List.length l) - (Int.toNat n)) - (List.length (Go.Eng.seg l (Int.toNat n1) ((Int.toNat (((List.length l) : Nat) : Int)) - (Int.toNat n1)))))) : Nat) : Int)))))
                (cond (Nat.ble ((Int.toNat (((((Int.toNat n) - 0) + (List.length (Go.Eng.seg l (Int.toNat n1) ((Int.toNat (((List.length l) : Nat) : Int)) - (Int.toNat n1))))) : Nat) : Int)) + (List.length (List.replicate ((Int.toNat (((List.length l) : Nat) : Int)) - (Int.toNat (((((Int.toNat n) - 0) + (List.length (Go.Eng.seg l (Int.toNat n1) ((Int.toNat (((List.length l) : Nat) : Int)) - (Int.toNat n1))))) : Nat) : Int))) (Go.Sa.KeySlot.mk (0 : Int) (ByteArray.mk (List.toArray [])) (ByteArray.mk (List.toArray [])))))) (List.length (Go.Eng.splice l (0 + ((Int.toNat n) - 0)) (Go.Eng.seg l (Int.toNat n1) ((Int.toNat (((List.length l) : Nat) : Int)) - (Int.toNat n1))))))
                  (k_1 (((Int.toNat n) - 0) + (List.length (Go.Eng.seg l (Int.toNat n1) ((Int.toNat (((List.length l) : Nat) : Int)) - (Int.toNat n1))))) (((List.length l) - (Int.toNat n)) - (List.length (Go.Eng.seg l (Int.toNat n1) ((Int.toNat (((List.length l) : Nat) : Int)) - (Int.toNat n1))))) (Go.Eng.splice (Go.Eng.splice l (0 + ((Int.toNat n) - 0)) (Go.Eng.seg l (Int.toNat n1) ((Int.toNat (((List.length l) : Nat) : Int)) - (Int.toNat n1)))) (Int.toNat (((((Int.toNat n) - 0) + (List.length (Go.Eng.seg l (Int.toNat n1) ((Int.toNat (((List.length l) : Nat) : Int)) - (Int.toNat n1))))) : Nat) : Int)) (List.replicate ((Int.toNat (((List.length l) : Nat) : Int)) - (Int.toNat (((((Int.toNat n) - 0) + (List.length (Go.Eng.seg l (Int.toNat n1) ((Int.toNat (((List.length l) : Nat) : Int)) - (Int.toNat n1))))) : Nat) : Int))) (Go.Sa.KeySlot.mk (0 : Int) (ByteArray.mk (List.toArray [])) (ByteArray.mk (List.toArray []))))))
                  none)
                none)
              none)
            none)
          none)
        none)
      none))
  none)
theorem e_slices_Delete_KeySlot_w (N : Nat) {R : Type} (b : Bool) (n : Int) (n1 : Int) (l : List Go.Sa.KeySlot) (K : AV → Hp E → Option R) :
    runFnI (E := E) (O_slices_Delete_KeySlot_w N) (noIt) sl_slices_Delete_KeySlot_w J_slices_Delete_KeySlot_w Go.Proofs.Try.f119 [(Go.Eng.AV.sc (Go.Eng.SV.slc 0 Option.none b)), (Go.Eng.AV.sc (Go.Eng.SV.int Go.IntKind.i64 n)), (Go.Eng.AV.sc (Go.Eng.SV.int Go.IntKind.i64 n1))] [(Option.some (Go.Eng.HE.mk Bool.false (Go.Eng.HB.rows (Go.Sa.B.iKeySlot l))))] K =
      g_slices_Delete_KeySlot_w N b n n1 l (K (Go.Eng.AV.sc (Go.Eng.SV.slc 0 Option.none b)) [(Option.some (Go.Eng.HE.mk Bool.false (Go.Eng.HB.rows (Go.Sa.B.iKeySlot l))))]) (fun m m1 l1 => K (Go.Eng.AV.sc (Go.Eng.SV.slc 0 (Option.some (0, (m, m1))) b)) [(Option.some (Go.Eng.HE.mk Bool.false (Go.Eng.HB.rows (Go.Sa.B.iKeySlot l1))))]) := by kernel_rfl
def o_slices_Delete_KeySlot_w (N : Nat) {R : Type} (args : List AV) (H : Hp E) (K : AV → Hp E → Option R) : Option R :=
  match args, H with
  | [(Go.Eng.AV.sc (Go.Eng.SV.slc 0 Option.none b)), (Go.Eng.AV.sc (Go.Eng.SV.int Go.IntKind.i64 n)), (Go.Eng.AV.sc (Go.Eng.SV.int Go.IntKind.i64 n1))], [(Option.some (Go.Eng.HE.mk Bool.false (Go.Eng.HB.rows (Go.Sa.B.iKeySlot l))))] => g_slices_Delete_KeySlot_w N b n n1 l (K (Go.Eng.AV.sc (Go.Eng.SV.slc 0 Option.none b)) [(Option.some (Go.Eng.HE.mk Bool.false (Go.Eng.HB.rows (Go.Sa.B.iKeySlot l))))]) (fun m m1 l1 => K (Go.Eng.AV.sc (Go.Eng.SV.slc 0 (Option.some (0, (m, m1))) b)) [(Option.some (Go.Eng.HE.mk Bool.false (Go.Eng.HB.rows (Go.Sa.B.iKeySlot l1))))])
  | _, _ => none
theorem o_slices_Delete_KeySlot_w_ok (N : Nat) : FnOk E 119 (o_slices_Delete_KeySlot_w N) := by
  intro R args H K r h
  unfold o_slices_Delete_KeySlot_w at h
  dsimp only at h
  split at h
  · exact fnB_ok (ids := []) (top := []) ok (O_slices_Delete_KeySlot_w_ok N) (jn_ok _ _ _) Go.Proofs.Try.func119 (by kernel_rfl) (IT := noIt) (sl := sl_slices_Delete_KeySlot_w) (J := J_slices_Delete_KeySlot_w) (K := K) (H := [(Option.some (Go.Eng.HE.mk Bool.false (Go.Eng.HB.rows (Go.Sa.B.iKeySlot _))))]) (noIt_ok) (by kernel_rfl) rfl ((e_slices_Delete_KeySlot_w N _ _ _ _ K).trans h)
  · cases h
/-! ### loop.example/g00038/impl.DropPass -/
abbrev sl_impl_DropPass_w : SlotT := []
abbrev J_impl_DropPass_w : JT := jn [] [] [(7, [6])]
noncomputable def O_impl_DropPass_w (N : Nat) : Orc E := addFn 119 (o_slices_Delete_KeySlot_w N) (addFn 120 (o_slices_Clone_KeySlot_r N) (addFn 71 (o_impl_yin N) (addFn 118 (o_impl_VolumeFault_w N) (noFn))))
theorem O_impl_DropPass_w_ok (N : Nat) : OrcOk (O_impl_DropPass_w N) := addFn_ok (o_slices_Delete_KeySlot_w_ok N) (addFn_ok (o_slices_Clone_KeySlot_r_ok N) (addFn_ok (o_impl_yin_ok N) (addFn_ok (o_impl_VolumeFault_w_ok N) (noFn_ok))))
def g_impl_DropPass_w (N : Nat) {R : Type} (b : Bool) (s : ByteArray) (n : Int) (l : List Go.Sa.KeySlot) (k : Int → Bool → ByteArray → (List Go.Sa.KeySlot) → Option R) (k_1 : Nat → Nat → Bool → (List Go.Sa.KeySlot) → Option R) : Option R :=
  (g_impl_VolumeFault_w N b s l fun n1 =>
  (cond (n1 != (0 : Int))
  (k (1 : Int) Bool.true (ByteArray.mk (List.toArray [])) [])
  (g_impl_yin N n (0 : Int) (Go.IntKind.wrap Go.IntKind.i64 ((((List.length l) : Nat) : Int) - (1 : Int))) fun b1 =>
    (cond (!b1)
    (k (5 : Int) Bool.true (ByteArray.mk (List.toArray [])) [])
    (cond ((((List.length l) : Nat) : Int) == (1 : Int))
      (k (6 : Int) Bool.true (ByteArray.mk (List.toArray [])) [])
      (g_slices_Clone_KeySlot_r N b l fun b2 l1 =>
        (g_slices_Delete_KeySlot_w N b2 n (Go.IntKind.wrap Go.IntKind.i64 (n + (1 : Int))) l1 (
        (k (0 : Int) b2 s l1)) (fun m m1 l2 =>
        (k_1 m m1 b2 l2)))))))))
theorem e_impl_DropPass_w (N : Nat) {R : Type} (b : Bool) (s : ByteArray) (n : Int) (l : List Go.Sa.KeySlot) (K : AV → Hp E → Option R) :
    runFnI (E := E) (O_impl_DropPass_w N) (noIt) sl_impl_DropPass_w J_impl_DropPass_w Go.Proofs.Try.f60 [(Go.Eng.AV.agg [(Go.Eng.SV.slc 0 Option.none b), (Go.Eng.SV.str s)]), (Go.Eng.AV.sc (Go.Eng.SV.int Go.IntKind.i64 n))] [(Option.some (Go.Eng.HE.mk Bool.false (Go.Eng.HB.rows (Go.Sa.B.iKeySlot l))))] K =
      g_impl_DropPass_w N b s n l (fun n2 b3 s1 l3 => K (Go.Eng.AV.agg [(Go.Eng.SV.int Go.IntKind.i64 n2), (Go.Eng.SV.slc 1 Option.none b3), (Go.Eng.SV.str s1)]) [(Option.some (Go.Eng.HE.mk Bool.false (Go.Eng.HB.rows (Go.Sa.B.iKeySlot l)))), (Option.some (Go.Eng.HE.mk Bool.false (Go.Eng.HB.rows (Go.Sa.B.iKeySlot l3))))]) (fun m2 m3 b4 l4 => K (Go.Eng.AV.agg [(Go.Eng.SV.int Go.IntKind.i64 (0 : Int)), (Go.Eng.SV.slc 1 (Option.some (0, (m2, m3))) b4), (Go.Eng.SV.str s)]) [(Option.some (Go.Eng.HE.mk Bool.false (Go.Eng.HB.rows (Go.Sa.B.iKeySlot l)))), (Option.some (Go.Eng.HE.mk Bool.false (Go.Eng.HB.rows (Go.Sa.B.iKeySlot l4))))]) := by kernel_rfl
def o_impl_DropPass_w (N : Nat) {R : Type} (args : List AV) (H : Hp E) (K : AV → Hp E → Option R) : Option R :=
  match args, H with
  | [(Go.Eng.AV.agg [(Go.Eng.SV.slc 0 Option.none b), (Go.Eng.SV.str s)]), (Go.Eng.AV.sc (Go.Eng.SV.int Go.IntKind.i64 n))], [(Option.some (Go.Eng.HE.mk Bool.false (Go.Eng.HB.rows (Go.Sa.B.iKeySlot l))))] => g_impl_DropPass_w N b s n l (fun n2 b3 s1 l3 => K (Go.Eng.AV.agg [(Go.Eng.SV.int Go.IntKind.i64 n2), (Go.Eng.SV.slc 1 Option.none b3), (Go.Eng.SV.str s1)]) [(Option.some (Go.Eng.HE.mk Bool.false (Go.Eng.HB.rows (Go.Sa.B.iKeySlot l)))), (Option.some (Go.Eng.HE.mk Bool.false (Go.Eng.HB.rows (Go.Sa.B.iKeySlot l3))))]) (fun m2 m3 b4 l4 => K (Go.Eng.AV.agg [(Go.Eng.SV.int Go.IntKind.i64 (0 : Int)), (Go.Eng.SV.slc 1 (Option.some (0, (m2, m3))) b4), (Go.Eng.SV.str s)]) [(Option.some (Go.Eng.HE.mk Bool.false (Go.Eng.HB.rows (Go.Sa.B.iKeySlot l)))), (Option.some (Go.Eng.HE.mk Bool.false (Go.Eng.HB.rows (Go.Sa.B.iKeySlot l4))))])
  | _, _ => none
theorem o_impl_DropPass_w_ok (N : Nat) : FnOk E 60 (o_impl_DropPass_w N) := by
  intro R args H K r h
  unfold o_impl_DropPass_w at h
  dsimp only at h
  split at h
  · exact fnB_ok (ids := []) (top := []) ok (O_impl_DropPass_w_ok N) (jn_ok _ _ _) Go.Proofs.Try.func60 (by kernel_rfl) (IT := noIt) (sl := sl_impl_DropPass_w) (J := J_impl_DropPass_w) (K := K) (H := [(Option.some (Go.Eng.HE.mk Bool.false (Go.Eng.HB.rows (Go.Sa.B.iKeySlot _))))]) (noIt_ok) (by kernel_rfl) rfl ((e_impl_DropPass_w N _ _ _ _ K).trans h)
  · cases h
/-! ### loop.example/g00038/laws.eqKeySlot -/
abbrev sl_laws_eqKeySlot : SlotT := []
abbrev J_laws_eqKeySlot : JT := jn [] [] []
noncomputable def O_laws_eqKeySlot (N : Nat) : Orc E := noFn
theorem O_laws_eqKeySlot_ok (N : Nat) : OrcOk (O_laws_eqKeySlot N) := noFn_ok
def g_laws_eqKeySlot (N : Nat) {R : Type} (n : Int) (s : ByteArray) (s1 : ByteArray) (n1 : Int) (s2 : ByteArray) (s3 : ByteArray) (k : Bool → Option R) : Option R :=
  (cond (n != n1)
  (k Bool.false)
  (cond (!(decide ((s = s2))))
    (k Bool.false)
    (cond (!(decide ((s1 = s3))))
      (k Bool.false)
      (k Bool.true))))
theorem e_laws_eqKeySlot (N : Nat) {R : Type} (n : Int) (s : ByteArray) (s1 : ByteArray) (n1 : Int) (s2 : ByteArray) (s3 : ByteArray) (K : AV → Hp E → Option R) :
    runFnI (E := E) (O_laws_eqKeySlot N) (noIt) sl_laws_eqKeySlot J_laws_eqKeySlot Go.Proofs.Try.f153 [(Go.Eng.AV.agg [(Go.Eng.SV.int Go.IntKind.i64 n), (Go.Eng.SV.str s), (Go.Eng.SV.str s1)]), (Go.Eng.AV.agg [(Go.Eng.SV.int Go.IntKind.i64 n1), (Go.Eng.SV.str s2), (Go.Eng.SV.str s3)])] [] K =
      g_laws_eqKeySlot N n s s1 n1 s2 s3 (fun b => K (Go.Eng.AV.sc (Go.Eng.SV.bool b)) []) := by kernel_rfl
def o_laws_eqKeySlot (N : Nat) {R : Type} (args : List AV) (H : Hp E) (K : AV → Hp E → Option R) : Option R :=
  match args, H with
  | [(Go.Eng.AV.agg [(Go.Eng.SV.int Go.IntKind.i64 n), (Go.Eng.SV.str s), (Go.Eng.SV.str s1)]), (Go.Eng.AV.agg [(Go.Eng.SV.int Go.IntKind.i64 n1), (Go.Eng.SV.str s2), (Go.Eng.SV.str s3)])], [] => g_laws_eqKeySlot N n s s1 n1 s2 s3 (fun b => K (Go.Eng.AV.sc (Go.Eng.SV.bool b)) [])
  | _, _ => none
theorem o_laws_eqKeySlot_ok (N : Nat) : FnOk E 153 (o_laws_eqKeySlot N) := by
  intro R args H K r h
  unfold o_laws_eqKeySlot at h
  dsimp only at h
  split at h
  · exact fnB_ok (ids := []) (top := []) ok (O_laws_eqKeySlot_ok N) (jn_ok _ _ _) Go.Proofs.Try.func153 (by kernel_rfl) (IT := noIt) (sl := sl_laws_eqKeySlot) (J := J_laws_eqKeySlot) (K := K) (H := []) (noIt_ok) (by kernel_rfl) rfl ((e_laws_eqKeySlot N _ _ _ _ _ _ K).trans h)
  · cases h
/-! ### loop.example/g00038/laws.eqKeySlotS -/
abbrev sl_laws_eqKeySlotS_ww : SlotT := [(0, ([0, 1, 5], [4]))]
abbrev J_laws_eqKeySlotS_ww : JT := jn [] [] []
noncomputable def O_laws_eqKeySlotS_ww (N : Nat) : Orc E := addFn 153 (o_laws_eqKeySlot N) (noFn)
theorem O_laws_eqKeySlotS_ww_ok (N : Nat) : OrcOk (O_laws_eqKeySlotS_ww N) := addFn_ok (o_laws_eqKeySlot_ok N) (noFn_ok)
def s_laws_eqKeySlotS_ww_0 (N : Nat) {R : Type} (b2 : Bool) (b3 : Bool) (l2 : List Go.Sa.KeySlot) (l3 : List Go.Sa.KeySlot) (n : Int) (ag : Int → Option R)  (kR : Option R) (kN : Option R) : Option R :=
  (cond (decide ((n < (((List.length l2) : Nat) : Int))))
  (cond ((decide (((0 : Int) ≤ n))) && (decide ((n < (((List.length l2) : Nat) : Int)))))
    (elemK l2 (Int.toNat n) fun x =>
      (cond ((decide (((0 : Int) ≤ n))) && (decide ((n < (((List.length l3) : Nat) : Int)))))
      (elemK l3 (Int.toNat n) fun x1 =>
        (g_laws_eqKeySlot N (Go.Sa.KeySlot.fSalt x) (Go.Sa.KeySlot.fKey x) (Go.Sa.KeySlot.fTag x) (Go.Sa.KeySlot.fSalt x1) (Go.Sa.KeySlot.fKey x1) (Go.Sa.KeySlot.fTag x1) fun b4 =>
        (cond (!b4)
        kR
        (ag (Go.IntKind.wrap Go.IntKind.i64 (n + (1 : Int)))))))
      none))
    none)
  kN)
def l_laws_eqKeySlotS_ww_0 (N : Nat) {R : Type} (b2 : Bool) (b3 : Bool) (l2 : List Go.Sa.KeySlot) (l3 : List Go.Sa.KeySlot) (kR : Option R) (kN : Option R) : Nat → Int → Option R
  | 0, _ => none
  | f + 1, n => s_laws_eqKeySlotS_ww_0 N b2 b3 l2 l3 n (fun n => l_laws_eqKeySlotS_ww_0 N b2 b3 l2 l3 kR kN f n)  kR kN
def c_laws_eqKeySlotS_ww_0 (N : Nat) {R : Type} (b2 : Bool) (b3 : Bool) (l2 : List Go.Sa.KeySlot) (l3 : List Go.Sa.KeySlot) (n : Int) (kR : Option R) (kN : Option R) : Option R := l_laws_eqKeySlotS_ww_0 N b2 b3 l2 l3 kR kN N n
theorem se_laws_eqKeySlotS_ww_0 (N : Nat) {R : Type} (b2 : Bool) (b3 : Bool) (l2 : List Go.Sa.KeySlot) (l3 : List Go.Sa.KeySlot) (n : Int) (AG : List (Option AV) → Hp E → Option R) (KL : Ex → List (Option AV) → Hp E → Option R) :
    iterStep (E := E) (O_laws_eqKeySlotS_ww N) (fun {R} => LI (noIt) 2 27 sl_laws_eqKeySlotS_ww (R := R)) J_laws_eqKeySlotS_ww 2 27 0 [0, 1, 5] [4] (body Go.Proofs.Try.f121 0) AG KL [(Option.some (Go.Eng.AV.sc (Go.Eng.SV.slc 0 Option.none b2))), (Option.some (Go.Eng.AV.sc (Go.Eng.SV.slc 1 Option.none b3))), (Option.some (Go.Eng.AV.sc (Go.Eng.SV.int Go.IntKind.i64 n)))] [(Option.some (Go.Eng.HE.mk Bool.false (Go.Eng.HB.rows (Go.Sa.B.iKeySlot l2)))), (Option.some (Go.Eng.HE.mk Bool.false (Go.Eng.HB.rows (Go.Sa.B.iKeySlot l3))))] =
      s_laws_eqKeySlotS_ww_0 N b2 b3 l2 l3 n (fun n => AG [(Option.some (Go.Eng.AV.sc (Go.Eng.SV.slc 0 Option.none b2))), (Option.some (Go.Eng.AV.sc (Go.Eng.SV.slc 1 Option.none b3))), (Option.some (Go.Eng.AV.sc (Go.Eng.SV.int Go.IntKind.i64 n)))] [(Option.some (Go.Eng.HE.mk Bool.false (Go.Eng.HB.rows (Go.Sa.B.iKeySlot l2)))), (Option.some (Go.Eng.HE.mk Bool.false (Go.Eng.HB.rows (Go.Sa.B.iKeySlot l3))))])  (KL Go.Eng.Ex.ret [(Option.some (Go.Eng.AV.sc (Go.Eng.SV.bool Bool.false)))] [(Option.some (Go.Eng.HE.mk Bool.false (Go.Eng.HB.rows (Go.Sa.B.iKeySlot l2)))), (Option.some (Go.Eng.HE.mk Bool.false (Go.Eng.HB.rows (Go.Sa.B.iKeySlot l3))))]) (KL Go.Eng.Ex.normal [Option.none] [(Option.some (Go.Eng.HE.mk Bool.false (Go.Eng.HB.rows (Go.Sa.B.iKeySlot l2)))), (Option.some (Go.Eng.HE.mk Bool.false (Go.Eng.HB.rows (Go.Sa.B.iKeySlot l3))))]) := by kernel_rfl
theorem le_laws_eqKeySlotS_ww_0 (N : Nat) {R : Type} (b2 : Bool) (b3 : Bool) (l2 : List Go.Sa.KeySlot) (l3 : List Go.Sa.KeySlot) (KL : Ex → List (Option AV) → Hp E → Option R) : ∀ (f : Nat), ∀ (n : Int), iterK (E := E) (O_laws_eqKeySlotS_ww N) (fun {R} => LI (noIt) 2 27 sl_laws_eqKeySlotS_ww (R := R)) J_laws_eqKeySlotS_ww 2 27 0 [0, 1, 5] [4] (body Go.Proofs.Try.f121 0) f [(Option.some (Go.Eng.AV.sc (Go.Eng.SV.slc 0 Option.none b2))), (Option.some (Go.Eng.AV.sc (Go.Eng.SV.slc 1 Option.none b3))), (Option.some (Go.Eng.AV.sc (Go.Eng.SV.int Go.IntKind.i64 n)))] [(Option.some (Go.Eng.HE.mk Bool.false (Go.Eng.HB.rows (Go.Sa.B.iKeySlot l2)))), (Option.some (Go.Eng.HE.mk Bool.false (Go.Eng.HB.rows (Go.Sa.B.iKeySlot l3))))] KL = l_laws_eqKeySlotS_ww_0 N b2 b3 l2 l3 (KL Go.Eng.Ex.ret [(Option.some (Go.Eng.AV.sc (Go.Eng.SV.bool Bool.false)))] [(Option.some (Go.Eng.HE.mk Bool.false (Go.Eng.HB.rows (Go.Sa.B.iKeySlot l2)))), (Option.some (Go.Eng.HE.mk Bool.false (Go.Eng.HB.rows (Go.Sa.B.iKeySlot l3))))]) (KL Go.Eng.Ex.normal [Option.none] [(Option.some (Go.Eng.HE.mk Bool.false (Go.Eng.HB.rows (Go.Sa.B.iKeySlot l2)))), (Option.some (Go.Eng.HE.mk Bool.false (Go.Eng.HB.rows (Go.Sa.B.iKeySlot l3))))]) f n := by
  intro f
  induction f with
  | zero => intros; rfl
  | succ f ih =>
    intro n
    rw [iterK_succ, se_laws_eqKeySlotS_ww_0]
    exact (congrArg (fun z0 => s_laws_eqKeySlotS_ww_0 N b2 b3 l2 l3 n z0 (KL Go.Eng.Ex.ret [(Option.some (Go.Eng.AV.sc (Go.Eng.SV.bool Bool.false)))] [(Option.some (Go.Eng.HE.mk Bool.false (Go.Eng.HB.rows (Go.Sa.B.iKeySlot l2)))), (Option.some (Go.Eng.HE.mk Bool.false (Go.Eng.HB.rows (Go.Sa.B.iKeySlot l3))))]) (KL Go.Eng.Ex.normal [Option.none] [(Option.some (Go.Eng.HE.mk Bool.false (Go.Eng.HB.rows (Go.Sa.B.iKeySlot l2)))), (Option.some (Go.Eng.HE.mk Bool.false (Go.Eng.HB.rows (Go.Sa.B.iKeySlot l3))))])) (funext fun n => ih n))
def i_laws_eqKeySlotS_ww_0 (N : Nat) {R : Type} (vs : List (Option AV)) (H : Hp E) (KL : Ex → List (Option AV) → Hp E → Option R) : Option R :=
  match vs, H with
  | [(Option.some (Go.Eng.AV.sc (Go.Eng.SV.slc 0 Option.none b2))), (Option.some (Go.Eng.AV.sc (Go.Eng.SV.slc 1 Option.none b3))), (Option.some (Go.Eng.AV.sc (Go.Eng.SV.int Go.IntKind.i64 n)))], [(Option.some (Go.Eng.HE.mk Bool.false (Go.Eng.HB.rows (Go.Sa.B.iKeySlot l2)))), (Option.some (Go.Eng.HE.mk Bool.false (Go.Eng.HB.rows (Go.Sa.B.iKeySlot l3))))] => c_laws_eqKeySlotS_ww_0 N b2 b3 l2 l3 n (KL Go.Eng.Ex.ret [(Option.some (Go.Eng.AV.sc (Go.Eng.SV.bool Bool.false)))] [(Option.some (Go.Eng.HE.mk Bool.false (Go.Eng.HB.rows (Go.Sa.B.iKeySlot l2)))), (Option.some (Go.Eng.HE.mk Bool.false (Go.Eng.HB.rows (Go.Sa.B.iKeySlot l3))))]) (KL Go.Eng.Ex.normal [Option.none] [(Option.some (Go.Eng.HE.mk Bool.false (Go.Eng.HB.rows (Go.Sa.B.iKeySlot l2)))), (Option.some (Go.Eng.HE.mk Bool.false (Go.Eng.HB.rows (Go.Sa.B.iKeySlot l3))))])
  | _, _ => none
noncomputable def IT_laws_eqKeySlotS_ww_0 (N : Nat) : Its E := addIt 0 (i_laws_eqKeySlotS_ww_0 N) (noIt)
theorem IT_laws_eqKeySlotS_ww_0_ok (N : Nat) : ItOk (IT_laws_eqKeySlotS_ww_0 N) 2 27 sl_laws_eqKeySlotS_ww (lsB Go.Proofs.Try.f121 [0]) :=
  addItB_ok (inner := []) ok (O_laws_eqKeySlotS_ww_ok N) (jn_ok _ _ _) (noIt_ok) rfl (by kernel_rfl) rfl fun vs H KL r h => by
    unfold i_laws_eqKeySlotS_ww_0 at h
    split at h
    · exact ⟨_, (le_laws_eqKeySlotS_ww_0 N _ _ _ _ KL N _).trans h⟩
    · cases h
def g_laws_eqKeySlotS_ww (N : Nat) {R : Type} (b : Bool) (b1 : Bool) (l : List Go.Sa.KeySlot) (l1 : List Go.Sa.KeySlot) (k : Bool → Option R) : Option R :=
  (cond ((((List.length l) : Nat) : Int) != (((List.length l1) : Nat) : Int))
  (k Bool.false)
  (c_laws_eqKeySlotS_ww_0 N b b1 l l1 (0 : Int) (
    (k Bool.false)) (
    (k Bool.true))))
theorem e_laws_eqKeySlotS_ww (N : Nat) {R : Type} (b : Bool) (b1 : Bool) (l : List Go.Sa.KeySlot) (l1 : List Go.Sa.KeySlot) (K : AV → Hp E → Option R) :
    runFnI (E := E) (O_laws_eqKeySlotS_ww N) (IT_laws_eqKeySlotS_ww_0 N) sl_laws_eqKeySlotS_ww J_laws_eqKeySlotS_ww Go.Proofs.Try.f121 [(Go.Eng.AV.sc (Go.Eng.SV.slc 0 Option.none b)), (Go.Eng.AV.sc (Go.Eng.SV.slc 1 Option.none b1))] [(Option.some (Go.Eng.HE.mk Bool.false (Go.Eng.HB.rows (Go.Sa.B.iKeySlot l)))), (Option.some (Go.Eng.HE.mk Bool.false (Go.Eng.HB.rows (Go.Sa.B.iKeySlot l1))))] K =
      g_laws_eqKeySlotS_ww N b b1 l l1 (fun b5 => K (Go.Eng.AV.sc (Go.Eng.SV.bool b5)) [(Option.some (Go.Eng.HE.mk Bool.false (Go.Eng.HB.rows (Go.Sa.B.iKeySlot l)))), (Option.some (Go.Eng.HE.mk Bool.false (Go.Eng.HB.rows (Go.Sa.B.iKeySlot l1))))]) := by kernel_rfl
def o_laws_eqKeySlotS_ww (N : Nat) {R : Type} (args : List AV) (H : Hp E) (K : AV → Hp E → Option R) : Option R :=
  match args, H with
  | [(Go.Eng.AV.sc (Go.Eng.SV.slc 0 Option.none b)), (Go.Eng.AV.sc (Go.Eng.SV.slc 1 Option.none b1))], [(Option.some (Go.Eng.HE.mk Bool.false (Go.Eng.HB.rows (Go.Sa.B.iKeySlot l)))), (Option.some (Go.Eng.HE.mk Bool.false (Go.Eng.HB.rows (Go.Sa.B.iKeySlot l1))))] => g_laws_eqKeySlotS_ww N b b1 l l1 (fun b5 => K (Go.Eng.AV.sc (Go.Eng.SV.bool b5)) [(Option.some (Go.Eng.HE.mk Bool.false (Go.Eng.HB.rows (Go.Sa.B.iKeySlot l)))), (Option.some (Go.Eng.HE.mk Bool.false (Go.Eng.HB.rows (Go.Sa.B.iKeySlot l1))))])
  | _, _ => none
theorem o_laws_eqKeySlotS_ww_ok (N : Nat) : FnOk E 121 (o_laws_eqKeySlotS_ww N) := by
  intro R args H K r h
  unfold o_laws_eqKeySlotS_ww at h
  dsimp only at h
  split at h
  · exact fnB_ok (ids := [0]) (top := [0]) ok (O_laws_eqKeySlotS_ww_ok N) (jn_ok _ _ _) Go.Proofs.Try.func121 (by kernel_rfl) (IT := IT_laws_eqKeySlotS_ww_0 N) (sl := sl_laws_eqKeySlotS_ww) (J := J_laws_eqKeySlotS_ww) (K := K) (H := [(Option.some (Go.Eng.HE.mk Bool.false (Go.Eng.HB.rows (Go.Sa.B.iKeySlot _)))), (Option.some (Go.Eng.HE.mk Bool.false (Go.Eng.HB.rows (Go.Sa.B.iKeySlot _))))]) (IT_laws_eqKeySlotS_ww_0_ok N) (by kernel_rfl) rfl ((e_laws_eqKeySlotS_ww N _ _ _ _ K).trans h)
  · cases h
/-! ### loop.example/g00038/laws.eqVolume -/
abbrev sl_laws_eqVolume_ww : SlotT := []
abbrev J_laws_eqVolume_ww : JT := jn [] [] []
noncomputable def O_laws_eqVolume_ww (N : Nat) : Orc E := addFn 121 (o_laws_eqKeySlotS_ww N) (noFn)
theorem O_laws_eqVolume_ww_ok (N : Nat) : OrcOk (O_laws_eqVolume_ww N) := addFn_ok (o_laws_eqKeySlotS_ww_ok N) (noFn_ok)
def g_laws_eqVolume_ww (N : Nat) {R : Type} (b : Bool) (s : ByteArray) (b1 : Bool) (s1 : ByteArray) (l : List Go.Sa.KeySlot) (l1 : List Go.Sa.KeySlot) (k : Bool → Option R) : Option R :=
  (g_laws_eqKeySlotS_ww N b b1 l l1 fun b2 =>
  (cond (!b2)
  (k Bool.false)
  (cond (!(decide ((s = s1))))
    (k Bool.false)
    (k Bool.true))))
theorem e_laws_eqVolume_ww (N : Nat) {R : Type} (b : Bool) (s : ByteArray) (b1 : Bool) (s1 : ByteArray) (l : List Go.Sa.KeySlot) (l1 : List Go.Sa.KeySlot) (K : AV → Hp E → Option R) :
    runFnI (E := E) (O_laws_eqVolume_ww N) (noIt) sl_laws_eqVolume_ww J_laws_eqVolume_ww Go.Proofs.Try.f62 [(Go.Eng.AV.agg [(Go.Eng.SV.slc 0 Option.none b), (Go.Eng.SV.str s)]), (Go.Eng.AV.agg [(Go.Eng.SV.slc 1 Option.none b1), (Go.Eng.SV.str s1)])] [(Option.some (Go.Eng.HE.mk Bool.false (Go.Eng.HB.rows (Go.Sa.B.iKeySlot l)))), (Option.some (Go.Eng.HE.mk Bool.false (Go.Eng.HB.rows (Go.Sa.B.iKeySlot l1))))] K =
      g_laws_eqVolume_ww N b s b1 s1 l l1 (fun b3 => K (Go.Eng.AV.sc (Go.Eng.SV.bool b3)) [(Option.some (Go.Eng.HE.mk Bool.false (Go.Eng.HB.rows (Go.Sa.B.iKeySlot l)))), (Option.some (Go.Eng.HE.mk Bool.false (Go.Eng.HB.rows (Go.Sa.B.iKeySlot l1))))]) := by kernel_rfl
def o_laws_eqVolume_ww (N : Nat) {R : Type} (args : List AV) (H : Hp E) (K : AV → Hp E → Option R) : Option R :=
  match args, H with
  | [(Go.Eng.AV.agg [(Go.Eng.SV.slc 0 Option.none b), (Go.Eng.SV.str s)]), (Go.Eng.AV.agg [(Go.Eng.SV.slc 1 Option.none b1), (Go.Eng.SV.str s1)])], [(Option.some (Go.Eng.HE.mk Bool.false (Go.Eng.HB.rows (Go.Sa.B.iKeySlot l)))), (Option.some (Go.Eng.HE.mk Bool.false (Go.Eng.HB.rows (Go.Sa.B.iKeySlot l1))))] => g_laws_eqVolume_ww N b s b1 s1 l l1 (fun b3 => K (Go.Eng.AV.sc (Go.Eng.SV.bool b3)) [(Option.some (Go.Eng.HE.mk Bool.false (Go.Eng.HB.rows (Go.Sa.B.iKeySlot l)))), (Option.some (Go.Eng.HE.mk Bool.false (Go.Eng.HB.rows (Go.Sa.B.iKeySlot l1))))])
  | _, _ => none
theorem o_laws_eqVolume_ww_ok (N : Nat) : FnOk E 62 (o_laws_eqVolume_ww N) := by
  intro R args H K r h
  unfold o_laws_eqVolume_ww at h
  dsimp only at h
  split at h
  · exact fnB_ok (ids := []) (top := []) ok (O_laws_eqVolume_ww_ok N) (jn_ok _ _ _) Go.Proofs.Try.func62 (by kernel_rfl) (IT := noIt) (sl := sl_laws_eqVolume_ww) (J := J_laws_eqVolume_ww) (K := K) (H := [(Option.some (Go.Eng.HE.mk Bool.false (Go.Eng.HB.rows (Go.Sa.B.iKeySlot _)))), (Option.some (Go.Eng.HE.mk Bool.false (Go.Eng.HB.rows (Go.Sa.B.iKeySlot _))))]) (noIt_ok) (by kernel_rfl) rfl ((e_laws_eqVolume_ww N _ _ _ _ _ _ K).trans h)
  · cases h
/-! ### loop.example/g00038/laws.eqVolumeRes -/
abbrev sl_laws_eqVolumeRes_ww : SlotT := []
abbrev J_laws_eqVolumeRes_ww : JT := jn [] [] []
noncomputable def O_laws_eqVolumeRes_ww (N : Nat) : Orc E := addFn 62 (o_laws_eqVolume_ww N) (noFn)
theorem O_laws_eqVolumeRes_ww_ok (N : Nat) : OrcOk (O_laws_eqVolumeRes_ww N) := addFn_ok (o_laws_eqVolume_ww_ok N) (noFn_ok)
def g_laws_eqVolumeRes_ww (N : Nat) {R : Type} (n : Int) (b : Bool) (s : ByteArray) (n1 : Int) (b1 : Bool) (s1 : ByteArray) (l : List Go.Sa.KeySlot) (l1 : List Go.Sa.KeySlot) (k : Bool → Option R) : Option R :=
  (cond (n != n1)
  (k Bool.false)
  (g_laws_eqVolume_ww N b s b1 s1 l l1 fun b2 =>
    (cond (!b2)
    (k Bool.false)
    (k Bool.true))))
theorem e_laws_eqVolumeRes_ww (N : Nat) {R : Type} (n : Int) (b : Bool) (s : ByteArray) (n1 : Int) (b1 : Bool) (s1 : ByteArray) (l : List Go.Sa.KeySlot) (l1 : List Go.Sa.KeySlot) (K : AV → Hp E → Option R) :
    runFnI (E := E) (O_laws_eqVolumeRes_ww N) (noIt) sl_laws_eqVolumeRes_ww J_laws_eqVolumeRes_ww Go.Proofs.Try.f61 [(Go.Eng.AV.agg [(Go.Eng.SV.int Go.IntKind.i64 n), (Go.Eng.SV.slc 0 Option.none b), (Go.Eng.SV.str s)]), (Go.Eng.AV.agg [(Go.Eng.SV.int Go.IntKind.i64 n1), (Go.Eng.SV.slc 1 Option.none b1), (Go.Eng.SV.str s1)])] [(Option.some (Go.Eng.HE.mk Bool.false (Go.Eng.HB.rows (Go.Sa.B.iKeySlot l)))), (Option.some (Go.Eng.HE.mk Bool.false (Go.Eng.HB.rows (Go.Sa.B.iKeySlot l1))))] K =
      g_laws_eqVolumeRes_ww N n b s n1 b1 s1 l l1 (fun b3 => K (Go.Eng.AV.sc (Go.Eng.SV.bool b3)) [(Option.some (Go.Eng.HE.mk Bool.false (Go.Eng.HB.rows (Go.Sa.B.iKeySlot l)))), (Option.some (Go.Eng.HE.mk Bool.false (Go.Eng.HB.rows (Go.Sa.B.iKeySlot l1))))]) := by kernel_rfl
def o_laws_eqVolumeRes_ww (N : Nat) {R : Type} (args : List AV) (H : Hp E) (K : AV → Hp E → Option R) : Option R :=
  match args, H with
  | [(Go.Eng.AV.agg [(Go.Eng.SV.int Go.IntKind.i64 n), (Go.Eng.SV.slc 0 Option.none b), (Go.Eng.SV.str s)]), (Go.Eng.AV.agg [(Go.Eng.SV.int Go.IntKind.i64 n1), (Go.Eng.SV.slc 1 Option.none b1), (Go.Eng.SV.str s1)])], [(Option.some (Go.Eng.HE.mk Bool.false (Go.Eng.HB.rows (Go.Sa.B.iKeySlot l)))), (Option.some (Go.Eng.HE.mk Bool.false (Go.Eng.HB.rows (Go.Sa.B.iKeySlot l1))))] => g_laws_eqVolumeRes_ww N n b s n1 b1 s1 l l1 (fun b3 => K (Go.Eng.AV.sc (Go.Eng.SV.bool b3)) [(Option.some (Go.Eng.HE.mk Bool.false (Go.Eng.HB.rows (Go.Sa.B.iKeySlot l)))), (Option.some (Go.Eng.HE.mk Bool.false (Go.Eng.HB.rows (Go.Sa.B.iKeySlot l1))))])
  | _, _ => none
theorem o_laws_eqVolumeRes_ww_ok (N : Nat) : FnOk E 61 (o_laws_eqVolumeRes_ww N) := by
  intro R args H K r h
  unfold o_laws_eqVolumeRes_ww at h
  dsimp only at h
  split at h
  · exact fnB_ok (ids := []) (top := []) ok (O_laws_eqVolumeRes_ww_ok N) (jn_ok _ _ _) Go.Proofs.Try.func61 (by kernel_rfl) (IT := noIt) (sl := sl_laws_eqVolumeRes_ww) (J := J_laws_eqVolumeRes_ww) (K := K) (H := [(Option.some (Go.Eng.HE.mk Bool.false (Go.Eng.HB.rows (Go.Sa.B.iKeySlot _)))), (Option.some (Go.Eng.HE.mk Bool.false (Go.Eng.HB.rows (Go.Sa.B.iKeySlot _))))]) (noIt_ok) (by kernel_rfl) rfl ((e_laws_eqVolumeRes_ww N _ _ _ _ _ _ _ _ K).trans h)
  · cases h
/-! ### loop.example/g00038/laws.eqKeySlotS -/
abbrev sl_laws_eqKeySlotS_rr : SlotT := [(0, ([0, 1, 5], [4]))]
abbrev J_laws_eqKeySlotS_rr : JT := jn [] [] []
noncomputable def O_laws_eqKeySlotS_rr (N : Nat) : Orc E := addFn 153 (o_laws_eqKeySlot N) (noFn)
theorem O_laws_eqKeySlotS_rr_ok (N : Nat) : OrcOk (O_laws_eqKeySlotS_rr N) := addFn_ok (o_laws_eqKeySlot_ok N) (noFn_ok)
def s_laws_eqKeySlotS_rr_0 (N : Nat) {R : Type} (b2 : Bool) (b3 : Bool) (l2 : List Go.Sa.KeySlot) (l3 : List Go.Sa.KeySlot) (n : Int) (ag : Int → Option R)  (kR : Option R) (kN : Option R) : Option R :=
  (cond (decide ((n < (((List.length l2) : Nat) : Int))))
  (cond ((decide (((0 : Int) ≤ n))) && (decide ((n < (((List.length l2) : Nat) : Int)))))
    (elemK l2 (Int.toNat n) fun x =>
      (cond ((decide (((0 : Int) ≤ n))) && (decide ((n < (((List.length l3) : Nat) : Int)))))
      (elemK l3 (Int.toNat n) fun x1 =>
        (g_laws_eqKeySlot N (Go.Sa.KeySlot.fSalt x) (Go.Sa.KeySlot.fKey x) (Go.Sa.KeySlot.fTag x) (Go.Sa.KeySlot.fSalt x1) (Go.Sa.KeySlot.fKey x1) (Go.Sa.KeySlot.fTag x1) fun b4 =>
        (cond (!b4)
        kR
        (ag (Go.IntKind.wrap Go.IntKind.i64 (n + (1 : Int)))))))
      none))
    none)
  kN)
def l_laws_eqKeySlotS_rr_0 (N : Nat) {R : Type} (b2 : Bool) (b3 : Bool) (l2 : List Go.Sa.KeySlot) (l3 : List Go.Sa.KeySlot) (kR : Option R) (kN : Option R) : Nat → Int → Option R
  | 0, _ => none
  | f + 1, n => s_laws_eqKeySlotS_rr_0 N b2 b3 l2 l3 n (fun n => l_laws_eqKeySlotS_rr_0 N b2 b3 l2 l3 kR kN f n)  kR kN
def c_laws_eqKeySlotS_rr_0 (N : Nat) {R : Type} (b2 : Bool) (b3 : Bool) (l2 : List Go.Sa.KeySlot) (l3 : List Go.Sa.KeySlot) (n : Int) (kR : Option R) (kN : Option R) : Option R := l_laws_eqKeySlotS_rr_0 N b2 b3 l2 l3 kR kN N n
theorem se_laws_eqKeySlotS_rr_0 (N : Nat) {R : Type} (b2 : Bool) (b3 : Bool) (l2 : List Go.Sa.KeySlot) (l3 : List Go.Sa.KeySlot) (n : Int) (AG : List (Option AV) → Hp E → Option R) (KL : Ex → List (Option AV) → Hp E → Option R) :
    iterStep (E := E) (O_laws_eqKeySlotS_rr N) (fun {R} => LI (noIt) 2 27 sl_laws_eqKeySlotS_rr (R := R)) J_laws_eqKeySlotS_rr 2 27 0 [0, 1, 5] [4] (body Go.Proofs.Try.f121 0) AG KL [(Option.some (Go.Eng.AV.sc (Go.Eng.SV.slc 0 Option.none b2))), (Option.some (Go.Eng.AV.sc (Go.Eng.SV.slc 1 Option.none b3))), (Option.some (Go.Eng.AV.sc (Go.Eng.SV.int Go.IntKind.i64 n)))] [(Option.some (Go.Eng.HE.mk Bool.true (Go.Eng.HB.rows (Go.Sa.B.iKeySlot l2)))), (Option.some (Go.Eng.HE.mk Bool.true (Go.Eng.HB.rows (Go.Sa.B.iKeySlot l3))))] =
      s_laws_eqKeySlotS_rr_0 N b2 b3 l2 l3 n (fun n => AG [(Option.some (Go.Eng.AV.sc (Go.Eng.SV.slc 0 Option.none b2))), (Option.some (Go.Eng.AV.sc (Go.Eng.SV.slc 1 Option.none b3))), (Option.some (Go.Eng.AV.sc (Go.Eng.SV.int Go.IntKind.i64 n)))] [(Option.some (Go.Eng.HE.mk Bool.true (Go.Eng.HB.rows (Go.Sa.B.iKeySlot l2)))), (Option.some (Go.Eng.HE.mk Bool.true (Go.Eng.HB.rows (Go.Sa.B.iKeySlot l3))))])  (KL Go.Eng.Ex.ret [(Option.some (Go.Eng.AV.sc (Go.Eng.SV.bool Bool.false)))] [(Option.some (Go.Eng.HE.mk Bool.true (Go.Eng.HB.rows (Go.Sa.B.iKeySlot l2)))), (Option.some (Go.Eng.HE.mk Bool.true (Go.Eng.HB.rows (Go.Sa.B.iKeySlot l3))))]) (KL Go.Eng.Ex.normal [Option.none] [(Option.some (Go.Eng.HE.mk Bool.true (Go.Eng.HB.rows (Go.Sa.B.iKeySlot l2)))), (Option.some (Go.Eng.HE.mk Bool.true (Go.Eng.HB.rows (Go.Sa.B.iKeySlot l3))))]) := by kernel_rfl
theorem le_laws_eqKeySlotS_rr_0 (N : Nat) {R : Type} (b2 : Bool) (b3 : Bool) (l2 : List Go.Sa.KeySlot) (l3 : List Go.Sa.KeySlot) (KL : Ex → List (Option AV) → Hp E → Option R) : ∀ (f : Nat), ∀ (n : Int), iterK (E := E) (O_laws_eqKeySlotS_rr N) (fun {R} => LI (noIt) 2 27 sl_laws_eqKeySlotS_rr (R := R)) J_laws_eqKeySlotS_rr 2 27 0 [0, 1, 5] [4] (body Go.Proofs.Try.f121 0) f [(Option.some (Go.Eng.AV.sc (Go.Eng.SV.slc 0 Option.none b2))), (Option.some (Go.Eng.AV.sc (Go.Eng.SV.slc 1 Option.none b3))), (Option.some (Go.Eng.AV.sc (Go.Eng.SV.int Go.IntKind.i64 n)))] [(Option.some (Go.Eng.HE.mk Bool.true (Go.Eng.HB.rows (Go.Sa.B.iKeySlot l2)))), (Option.some (Go.Eng.HE.mk Bool.true (Go.Eng.HB.rows (Go.Sa.B.iKeySlot l3))))] KL = l_laws_eqKeySlotS_rr_0 N b2 b3 l2 l3 (KL Go.Eng.Ex.ret [(Option.some (Go.Eng.AV.sc (Go.Eng.SV.bool Bool.false)))] [(Option.some (Go.Eng.HE.mk Bool.true (Go.Eng.HB.rows (Go.Sa.B.iKeySlot l2)))), (Option.some (Go.Eng.HE.mk Bool.true (Go.Eng.HB.rows (Go.Sa.B.iKeySlot l3))))]) (KL Go.Eng.Ex.normal [Option.none] [(Option.some (Go.Eng.HE.mk Bool.true (Go.Eng.HB.rows (Go.Sa.B.iKeySlot l2)))), (Option.some (Go.Eng.HE.mk Bool.true (Go.Eng.HB.rows (Go.Sa.B.iKeySlot l3))))]) f n := by
  intro f
  induction f with
  | zero => intros; rfl
  | succ f ih =>
    intro n
    rw [iterK_succ, se_laws_eqKeySlotS_rr_0]
    exact (congrArg (fun z0 => s_laws_eqKeySlotS_rr_0 N b2 b3 l2 l3 n z0 (KL Go.Eng.Ex.ret [(Option.some (Go.Eng.AV.sc (Go.Eng.SV.bool Bool.false)))] [(Option.some (Go.Eng.HE.mk Bool.true (Go.Eng.HB.rows (Go.Sa.B.iKeySlot l2)))), (Option.some (Go.Eng.HE.mk Bool.true (Go.Eng.HB.rows (Go.Sa.B.iKeySlot l3))))]) (KL Go.Eng.Ex.normal [Option.none] [(Option.some (Go.Eng.HE.mk Bool.true (Go.Eng.HB.rows (Go.Sa.B.iKeySlot l2)))), (Option.some (Go.Eng.HE.mk Bool.true (Go.Eng.HB.rows (Go.Sa.B.iKeySlot l3))))])) (funext fun n => ih n))
def i_laws_eqKeySlotS_rr_0 (N : Nat) {R : Type} (vs : List (Option AV)) (H : Hp E) (KL : Ex → List (Option AV) → Hp E → Option R) : Option R :=
  match vs, H with
  | [(Option.some (Go.Eng.AV.sc (Go.Eng.SV.slc 0 Option.none b2))), (Option.some (Go.Eng.AV.sc (Go.Eng.SV.slc 1 Option.none b3))), (Option.some (Go.Eng.AV.sc (Go.Eng.SV.int Go.IntKind.i64 n)))], [(Option.some (Go.Eng.HE.mk Bool.true (Go.Eng.HB.rows (Go.Sa.B.iKeySlot l2)))), (Option.some (Go.Eng.HE.mk Bool.true (Go.Eng.HB.rows (Go.Sa.B.iKeySlot l3))))] => c_laws_eqKeySlotS_rr_0 N b2 b3 l2 l3 n (KL Go.Eng.Ex.ret [(Option.some (Go.Eng.AV.sc (Go.Eng.SV.bool Bool.false)))] [(Option.some (Go.Eng.HE.mk Bool.true (Go.Eng.HB.rows (Go.Sa.B.iKeySlot l2)))), (Option.some (Go.Eng.HE.mk Bool.true (Go.Eng.HB.rows (Go.Sa.B.iKeySlot l3))))]) (KL Go.Eng.Ex.normal [Option.none] [(Option.some (Go.Eng.HE.mk Bool.true (Go.Eng.HB.rows (Go.Sa.B.iKeySlot l2)))), (Option.some (Go.Eng.HE.mk Bool.true (Go.Eng.HB.rows (Go.Sa.B.iKeySlot l3))))])
  | _, _ => none
noncomputable def IT_laws_eqKeySlotS_rr_0 (N : Nat) : Its E := addIt 0 (i_laws_eqKeySlotS_rr_0 N) (noIt)
theorem IT_laws_eqKeySlotS_rr_0_ok (N : Nat) : ItOk (IT_laws_eqKeySlotS_rr_0 N) 2 27 sl_laws_eqKeySlotS_rr (lsB Go.Proofs.Try.f121 [0]) :=
  addItB_ok (inner := []) ok (O_laws_eqKeySlotS_rr_ok N) (jn_ok _ _ _) (noIt_ok) rfl (by kernel_rfl) rfl fun vs H KL r h => by
    unfold i_laws_eqKeySlotS_rr_0 at h
    split at h
    · exact ⟨_, (le_laws_eqKeySlotS_rr_0 N _ _ _ _ KL N _).trans h⟩
    · cases h
def g_laws_eqKeySlotS_rr (N : Nat) {R : Type} (b : Bool) (b1 : Bool) (l : List Go.Sa.KeySlot) (l1 : List Go.Sa.KeySlot) (k : Bool → Option R) : Option R :=
  (cond ((((List.length l) : Nat) : Int) != (((List.length l1) : Nat) : Int))
  (k Bool.false)
  (c_laws_eqKeySlotS_rr_0 N b b1 l l1 (0 : Int) (
    (k Bool.false)) (
    (k Bool.true))))
theorem e_laws_eqKeySlotS_rr (N : Nat) {R : Type} (b : Bool) (b1 : Bool) (l : List Go.Sa.KeySlot) (l1 : List Go.Sa.KeySlot) (K : AV → Hp E → Option R) :
    runFnI (E := E) (O_laws_eqKeySlotS_rr N) (IT_laws_eqKeySlotS_rr_0 N) sl_laws_eqKeySlotS_rr J_laws_eqKeySlotS_rr Go.Proofs.Try.f121 [(Go.Eng.AV.sc (Go.Eng.SV.slc 0 Option.none b)), (Go.Eng.AV.sc (Go.Eng.SV.slc 1 Option.none b1))] [(Option.some (Go.Eng.HE.mk Bool.true (Go.Eng.HB.rows (Go.Sa.B.iKeySlot l)))), (Option.some (Go.Eng.HE.mk Bool.true (Go.Eng.HB.rows (Go.Sa.B.iKeySlot l1))))] K =
      g_laws_eqKeySlotS_rr N b b1 l l1 (fun b5 => K (Go.Eng.AV.sc (Go.Eng.SV.bool b5)) [(Option.some (Go.Eng.HE.mk Bool.true (Go.Eng.HB.rows (Go.Sa.B.iKeySlot l)))), (Option.some (Go.Eng.HE.mk Bool.true (Go.Eng.HB.rows (Go.Sa.B.iKeySlot l1))))]) := by kernel_rfl
def o_laws_eqKeySlotS_rr (N : Nat) {R : Type} (args : List AV) (H : Hp E) (K : AV → Hp E → Option R) : Option R :=
  match args, H with
  | [(Go.Eng.AV.sc (Go.Eng.SV.slc 0 Option.none b)), (Go.Eng.AV.sc (Go.Eng.SV.slc 1 Option.none b1))], [(Option.some (Go.Eng.HE.mk Bool.true (Go.Eng.HB.rows (Go.Sa.B.iKeySlot l)))), (Option.some (Go.Eng.HE.mk Bool.true (Go.Eng.HB.rows (Go.Sa.B.iKeySlot l1))))] => g_laws_eqKeySlotS_rr N b b1 l l1 (fun b5 => K (Go.Eng.AV.sc (Go.Eng.SV.bool b5)) [(Option.some (Go.Eng.HE.mk Bool.true (Go.Eng.HB.rows (Go.Sa.B.iKeySlot l)))), (Option.some (Go.Eng.HE.mk Bool.true (Go.Eng.HB.rows (Go.Sa.B.iKeySlot l1))))])
  | _, _ => none
theorem o_laws_eqKeySlotS_rr_ok (N : Nat) : FnOk E 121 (o_laws_eqKeySlotS_rr N) := by
  intro R args H K r h
  unfold o_laws_eqKeySlotS_rr at h
  dsimp only at h
  split at h
  · exact fnB_ok (ids := [0]) (top := [0]) ok (O_laws_eqKeySlotS_rr_ok N) (jn_ok _ _ _) Go.Proofs.Try.func121 (by kernel_rfl) (IT := IT_laws_eqKeySlotS_rr_0 N) (sl := sl_laws_eqKeySlotS_rr) (J := J_laws_eqKeySlotS_rr) (K := K) (H := [(Option.some (Go.Eng.HE.mk Bool.true (Go.Eng.HB.rows (Go.Sa.B.iKeySlot _)))), (Option.some (Go.Eng.HE.mk Bool.true (Go.Eng.HB.rows (Go.Sa.B.iKeySlot _))))]) (IT_laws_eqKeySlotS_rr_0_ok N) (by kernel_rfl) rfl ((e_laws_eqKeySlotS_rr N _ _ _ _ K).trans h)
  · cases h
/-! ### loop.example/g00038/laws.eqVolume -/
abbrev sl_laws_eqVolume_rr : SlotT := []
abbrev J_laws_eqVolume_rr : JT := jn [] [] []
noncomputable def O_laws_eqVolume_rr (N : Nat) : Orc E := addFn 121 (o_laws_eqKeySlotS_rr N) (noFn)
theorem O_laws_eqVolume_rr_ok (N : Nat) : OrcOk (O_laws_eqVolume_rr N) := addFn_ok (o_laws_eqKeySlotS_rr_ok N) (noFn_ok)
def g_laws_eqVolume_rr (N : Nat) {R : Type} (b : Bool) (s : ByteArray) (b1 : Bool) (s1 : ByteArray) (l : List Go.Sa.KeySlot) (l1 : List Go.Sa.KeySlot) (k : Bool → Option R) : Option R :=
  (g_laws_eqKeySlotS_rr N b b1 l l1 fun b2 =>
  (cond (!b2)
  (k Bool.false)
  (cond (!(decide ((s = s1))))
    (k Bool.false)
    (k Bool.true))))
theorem e_laws_eqVolume_rr (N : Nat) {R : Type} (b : Bool) (s : ByteArray) (b1 : Bool) (s1 : ByteArray) (l : List Go.Sa.KeySlot) (l1 : List Go.Sa.KeySlot) (K : AV → Hp E → Option R) :
    runFnI (E := E) (O_laws_eqVolume_rr N) (noIt) sl_laws_eqVolume_rr J_laws_eqVolume_rr Go.Proofs.Try.f62 [(Go.Eng.AV.agg [(Go.Eng.SV.slc 0 Option.none b), (Go.Eng.SV.str s)]), (Go.Eng.AV.agg [(Go.Eng.SV.slc 1 Option.none b1), (Go.Eng.SV.str s1)])] [(Option.some (Go.Eng.HE.mk Bool.true (Go.Eng.HB.rows (Go.Sa.B.iKeySlot l)))), (Option.some (Go.Eng.HE.mk Bool.true (Go.Eng.HB.rows (Go.Sa.B.iKeySlot l1))))] K =
      g_laws_eqVolume_rr N b s b1 s1 l l1 (fun b3 => K (Go.Eng.AV.sc (Go.Eng.SV.bool b3)) [(Option.some (Go.Eng.HE.mk Bool.true (Go.Eng.HB.rows (Go.Sa.B.iKeySlot l)))), (Option.some (Go.Eng.HE.mk Bool.true (Go.Eng.HB.rows (Go.Sa.B.iKeySlot l1))))]) := by kernel_rfl
def o_laws_eqVolume_rr (N : Nat) {R : Type} (args : List AV) (H : Hp E) (K : AV → Hp E → Option R) : Option R :=
  match args, H with
  | [(Go.Eng.AV.agg [(Go.Eng.SV.slc 0 Option.none b), (Go.Eng.SV.str s)]), (Go.Eng.AV.agg [(Go.Eng.SV.slc 1 Option.none b1), (Go.Eng.SV.str s1)])], [(Option.some (Go.Eng.HE.mk Bool.true (Go.Eng.HB.rows (Go.Sa.B.iKeySlot l)))), (Option.some (Go.Eng.HE.mk Bool.true (Go.Eng.HB.rows (Go.Sa.B.iKeySlot l1))))] => g_laws_eqVolume_rr N b s b1 s1 l l1 (fun b3 => K (Go.Eng.AV.sc (Go.Eng.SV.bool b3)) [(Option.some (Go.Eng.HE.mk Bool.true (Go.Eng.HB.rows (Go.Sa.B.iKeySlot l)))), (Option.some (Go.Eng.HE.mk Bool.true (Go.Eng.HB.rows (Go.Sa.B.iKeySlot l1))))])
  | _, _ => none
theorem o_laws_eqVolume_rr_ok (N : Nat) : FnOk E 62 (o_laws_eqVolume_rr N) := by
  intro R args H K r h
  unfold o_laws_eqVolume_rr at h
  dsimp only at h
  split at h
  · exact fnB_ok (ids := []) (top := []) ok (O_laws_eqVolume_rr_ok N) (jn_ok _ _ _) Go.Proofs.Try.func62 (by kernel_rfl) (IT := noIt) (sl := sl_laws_eqVolume_rr) (J := J_laws_eqVolume_rr) (K := K) (H := [(Option.some (Go.Eng.HE.mk Bool.true (Go.Eng.HB.rows (Go.Sa.B.iKeySlot _)))), (Option.some (Go.Eng.HE.mk Bool.true (Go.Eng.HB.rows (Go.Sa.B.iKeySlot _))))]) (noIt_ok) (by kernel_rfl) rfl ((e_laws_eqVolume_rr N _ _ _ _ _ _ K).trans h)
  · cases h
/-! ### loop.example/g00038/laws.markText -/
abbrev sl_laws_markText : SlotT := [(0, ([0, 3], [3]))]
abbrev J_laws_markText : JT := jn [] [] []
noncomputable def O_laws_markText (N : Nat) : Orc E := noFn
theorem O_laws_markText_ok (N : Nat) : OrcOk (O_laws_markText N) := noFn_ok
def s_laws_markText_0 (N : Nat) {R : Type}  (n1 : Int) (s : ByteArray) (ag : Int → ByteArray → Option R)  (kN : ByteArray → Option R) : Option R :=
  (cond (decide ((n1 > (0 : Int))))
  (cond (Nat.ble ((ByteArray.size (Go.Eng.toBytes (Go.Eng.seg [(Go.IntKind.wrap Go.IntKind.u8 (Go.IntKind.wrap Go.IntKind.i64 ((48 : Int) + (Int.tmod n1 (10 : Int)))))] 0 (List.length [(Go.IntKind.wrap Go.IntKind.u8 (Go.IntKind.wrap Go.IntKind.i64 ((48 : Int) + (Int.tmod n1 (10 : Int)))))])))) + (ByteArray.size s)) 9223372036854775807)
    (ag (Go.IntKind.wrap Go.IntKind.i64 (Int.tdiv n1 (10 : Int))) ((Go.Eng.toBytes (Go.Eng.seg [(Go.IntKind.wrap Go.IntKind.u8 (Go.IntKind.wrap Go.IntKind.i64 ((48 : Int) + (Int.tmod n1 (10 : Int)))))] 0 (List.length [(Go.IntKind.wrap Go.IntKind.u8 (Go.IntKind.wrap Go.IntKind.i64 ((48 : Int) + (Int.tmod n1 (10 : Int)))))]))) ++ s))
    none)
  (kN s))
def l_laws_markText_0 (N : Nat) {R : Type}  (kN : ByteArray → Option R) : Nat → Int → ByteArray → Option R
  | 0, _, _ => none
  | f + 1, n1, s => s_laws_markText_0 N  n1 s (fun n1 s => l_laws_markText_0 N  kN f n1 s)  kN
def c_laws_markText_0 (N : Nat) {R : Type}  (n1 : Int) (s : ByteArray) (kN : ByteArray → Option R) : Option R := l_laws_markText_0 N  kN N n1 s
theorem se_laws_markText_0 (N : Nat) {R : Type}  (n1 : Int) (s : ByteArray) (AG : List (Option AV) → Hp E → Option R) (KL : Ex → List (Option AV) → Hp E → Option R) :
    iterStep (E := E) (O_laws_markText N) (fun {R} => LI (noIt) 0 20 sl_laws_markText (R := R)) J_laws_markText 0 20 0 [0, 3] [3] (body Go.Proofs.Try.f100 0) AG KL [(Option.some (Go.Eng.AV.sc (Go.Eng.SV.int Go.IntKind.i64 n1))), (Option.some (Go.Eng.AV.sc (Go.Eng.SV.str s)))] [] =
      s_laws_markText_0 N  n1 s (fun n1 s => AG [(Option.some (Go.Eng.AV.sc (Go.Eng.SV.int Go.IntKind.i64 n1))), (Option.some (Go.Eng.AV.sc (Go.Eng.SV.str s)))] [])  (fun s3 => KL Go.Eng.Ex.normal [(Option.some (Go.Eng.AV.sc (Go.Eng.SV.str s3)))] []) := by kernel_rfl
theorem le_laws_markText_0 (N : Nat) {R : Type}  (KL : Ex → List (Option AV) → Hp E → Option R) : ∀ (f : Nat), ∀ (n1 : Int) (s : ByteArray), iterK (E := E) (O_laws_markText N) (fun {R} => LI (noIt) 0 20 sl_laws_markText (R := R)) J_laws_markText 0 20 0 [0, 3] [3] (body Go.Proofs.Try.f100 0) f [(Option.some (Go.Eng.AV.sc (Go.Eng.SV.int Go.IntKind.i64 n1))), (Option.some (Go.Eng.AV.sc (Go.Eng.SV.str s)))] [] KL = l_laws_markText_0 N  (fun s3 => KL Go.Eng.Ex.normal [(Option.some (Go.Eng.AV.sc (Go.Eng.SV.str s3)))] []) f n1 s := by
  intro f
  induction f with
  | zero => intros; rfl
  | succ f ih =>
    intro n1 s
    rw [iterK_succ, se_laws_markText_0]
    exact (congrArg (fun z0 => s_laws_markText_0 N  n1 s z0 (fun s3 => KL Go.Eng.Ex.normal [(Option.some (Go.Eng.AV.sc (Go.Eng.SV.str s3)))] [])) (funext fun n1 => funext fun s => ih n1 s))
def i_laws_markText_0 (N : Nat) {R : Type} (vs : List (Option AV)) (H : Hp E) (KL : Ex → List (Option AV) → Hp E → Option R) : Option R :=
  match vs, H with
  | [(Option.some (Go.Eng.AV.sc (Go.Eng.SV.int Go.IntKind.i64 n1))), (Option.some (Go.Eng.AV.sc (Go.Eng.SV.str s)))], [] => c_laws_markText_0 N  n1 s (fun s4 => KL Go.Eng.Ex.normal [(Option.some (Go.Eng.AV.sc (Go.Eng.SV.str s4)))] [])
  | _, _ => none
noncomputable def IT_laws_markText_0 (N : Nat) : Its E := addIt 0 (i_laws_markText_0 N) (noIt)
theorem IT_laws_markText_0_ok (N : Nat) : ItOk (IT_laws_markText_0 N) 0 20 sl_laws_markText (lsB Go.Proofs.Try.f100 [0]) :=
  addItB_ok (inner := []) ok (O_laws_markText_ok N) (jn_ok _ _ _) (noIt_ok) rfl (by kernel_rfl) rfl fun vs H KL r h => by
    unfold i_laws_markText_0 at h
    split at h
    · exact ⟨_, (le_laws_markText_0 N KL N _ _).trans h⟩
    · cases h
def g_laws_markText (N : Nat) {R : Type} (n : Int) (k : ByteArray → Option R) : Option R :=
  (cond (decide ((n ≤ (0 : Int))))
  (k (ByteArray.mk (List.toArray [(109 : UInt8), (48 : UInt8)])))
  (c_laws_markText_0 N n (ByteArray.mk (List.toArray [])) fun s1 =>
    (cond (Nat.ble (1 + (ByteArray.size s1)) 9223372036854775807)
    (k ((ByteArray.mk (List.toArray [(109 : UInt8)])) ++ s1))
    none)))
theorem e_laws_markText (N : Nat) {R : Type} (n : Int) (K : AV → Hp E → Option R) :
    runFnI (E := E) (O_laws_markText N) (IT_laws_markText_0 N) sl_laws_markText J_laws_markText Go.Proofs.Try.f100 [(Go.Eng.AV.sc (Go.Eng.SV.int Go.IntKind.i64 n))] [] K =
      g_laws_markText N n (fun s2 => K (Go.Eng.AV.sc (Go.Eng.SV.str s2)) []) := by kernel_rfl
def o_laws_markText (N : Nat) {R : Type} (args : List AV) (H : Hp E) (K : AV → Hp E → Option R) : Option R :=
  match args, H with
  | [(Go.Eng.AV.sc (Go.Eng.SV.int Go.IntKind.i64 n))], [] => g_laws_markText N n (fun s2 => K (Go.Eng.AV.sc (Go.Eng.SV.str s2)) [])
  | _, _ => none
theorem o_laws_markText_ok (N : Nat) : FnOk E 100 (o_laws_markText N) := by
  intro R args H K r h
  unfold o_laws_markText at h
  dsimp only at h
  split at h
  · exact fnB_ok (ids := [0]) (top := [0]) ok (O_laws_markText_ok N) (jn_ok _ _ _) Go.Proofs.Try.func100 (by kernel_rfl) (IT := IT_laws_markText_0 N) (sl := sl_laws_markText) (J := J_laws_markText) (K := K) (H := []) (IT_laws_markText_0_ok N) (by kernel_rfl) rfl ((e_laws_markText N _ K).trans h)
  · cases h
/-! ### loop.example/g00038/laws.markKeySlotS -/
abbrev sl_laws_markKeySlotS_w : SlotT := [(0, ([0, 1, 5], [1]))]
abbrev J_laws_markKeySlotS_w : JT := jn [] [] []
noncomputable def O_laws_markKeySlotS_w (N : Nat) : Orc E := addFn 100 (o_laws_markText N) (noFn)
theorem O_laws_markKeySlotS_w_ok (N : Nat) : OrcOk (O_laws_markKeySlotS_w N) := addFn_ok (o_laws_markText_ok N) (noFn_ok)
def s_laws_markKeySlotS_w_0 (N : Nat) {R : Type} (b1 : Bool) (n1 : Int) (n2 : Int) (l1 : List Go.Sa.KeySlot) (ag : Int → Int → (List Go.Sa.KeySlot) → Option R)  (kN : Int → (List Go.Sa.KeySlot) → Option R) : Option R :=
  (cond (decide ((n2 < (((List.length l1) : Nat) : Int))))
  (cond ((decide (((0 : Int) ≤ n2))) && (decide ((n2 < (((List.length l1) : Nat) : Int)))))
    (elemK l1 (Int.toNat n2) fun x =>
      (cond (Nat.blt (Int.toNat n2) (List.length l1))
      (g_laws_markText N (Go.IntKind.wrap Go.IntKind.i64 (n1 + (1 : Int))) fun s =>
        (cond ((decide (((0 : Int) ≤ n2))) && (decide ((n2 < (((List.length (Go.Eng.nset l1 (Int.toNat n2) (Go.Sa.KeySlot.mk n1 (Go.Sa.KeySlot.fKey x) (Go.Sa.KeySlot.fTag x)))) : Nat) : Int)))))
        (elemK (Go.Eng.nset l1 (Int.toNat n2) (Go.Sa.KeySlot.mk n1 (Go.Sa.KeySlot.fKey x) (Go.Sa.KeySlot.fTag x))) (Int.toNat n2) fun x1 =>
          (cond (Nat.blt (Int.toNat n2) (List.length (Go.Eng.nset l1 (Int.toNat n2) (Go.Sa.KeySlot.mk n1 (Go.Sa.KeySlot.fKey x) (Go.Sa.KeySlot.fTag x)))))
          (g_laws_markText N (Go.IntKind.wrap Go.IntKind.i64 ((Go.IntKind.wrap Go.IntKind.i64 (n1 + (1 : Int))) + (1 : Int))) fun s1 =>
            (cond ((decide (((0 : Int) ≤ n2))) && (decide ((n2 < (((List.length (Go.Eng.nset (Go.Eng.nset l1 (Int.toNat n2) (Go.Sa.KeySlot.mk n1 (Go.Sa.KeySlot.fKey x) (Go.Sa.KeySlot.fTag x))) (Int.toNat n2) (Go.Sa.KeySlot.mk (Go.Sa.KeySlot.fSalt x1) s (Go.Sa.KeySlot.fTag x1)))) : Nat) : Int)))))
            (elemK (Go.Eng.nset (Go.Eng.nset l1 (Int.toNat n2) (Go.Sa.KeySlot.mk n1 (Go.Sa.KeySlot.fKey x) (Go.Sa.KeySlot.fTag x))) (Int.toNat n2) (Go.Sa.KeySlot.mk (Go.Sa.KeySlot.fSalt x1) s (Go.Sa.KeySlot.fTag x1))) (Int.toNat n2) fun x2 =>
              (cond (Nat.blt (Int.toNat n2) (List.length (Go.Eng.nset (Go.Eng.nset l1 (Int.toNat n2) (Go.Sa.KeySlot.mk n1 (Go.Sa.KeySlot.fKey x) (Go.Sa.KeySlot.fTag x))) (Int.toNat n2) (Go.Sa.KeySlot.mk (Go.Sa.KeySlot.fSalt x1) s (Go.Sa.KeySlot.fTag x1)))))
              (ag (Go.IntKind.wrap Go.IntKind.i64 ((Go.IntKind.wrap Go.IntKind.i64 ((Go.IntKind.wrap Go.IntKind.i64 (n1 + (1 : Int))) + (1 : Int))) + (1 : Int))) (Go.IntKind.wrap Go.IntKind.i64 (n2 + (1 : Int))) (Go.Eng.nset (Go.Eng.nset (Go.Eng.nset l1 (Int.toNat n2) (Go.Sa.KeySlot.mk n1 (Go.Sa.KeySlot.fKey x) (Go.Sa.KeySlot.fTag x))) (Int.toNat n2) (Go.Sa.KeySlot.mk (Go.Sa.KeySlot.fSalt x1) s (Go.Sa.KeySlot.fTag x1))) (Int.toNat n2) (Go.Sa.KeySlot.mk (Go.Sa.KeySlot.fSalt x2) (Go.Sa.KeySlot.fKey x2) s1)))
              none))
            none))
          none))
        none))
      none))
    none)
  (kN n1 l1))
def l_laws_markKeySlotS_w_0 (N : Nat) {R : Type} (b1 : Bool) (kN : Int → (List Go.Sa.KeySlot) → Option R) : Nat → Int → Int → (List Go.Sa.KeySlot) → Option R
  | 0, _, _, _ => none
  | f + 1, n1, n2, l1 => s_laws_markKeySlotS_w_0 N b1 n1 n2 l1 (fun n1 n2 l1 => l_laws_markKeySlotS_w_0 N b1 kN f n1 n2 l1)  kN
def c_laws_markKeySlotS_w_0 (N : Nat) {R : Type} (b1 : Bool) (n1 : Int) (n2 : Int) (l1 : List Go.Sa.KeySlot) (kN : Int → (List Go.Sa.KeySlot) → Option R) : Option R := l_laws_markKeySlotS_w_0 N b1 kN N n1 n2 l1
theorem se_laws_markKeySlotS_w_0 (N : Nat) {R : Type} (b1 : Bool) (n1 : Int) (n2 : Int) (l1 : List Go.Sa.KeySlot) (AG : List (Option AV) → Hp E → Option R) (KL : Ex → List (Option AV) → Hp E → Option R) :
    iterStep (E := E) (O_laws_markKeySlotS_w N) (fun {R} => LI (noIt) 1 36 sl_laws_markKeySlotS_w (R := R)) J_laws_markKeySlotS_w 1 36 0 [0, 1, 5] [1] (body Go.Proofs.Try.f122 0) AG KL [(Option.some (Go.Eng.AV.sc (Go.Eng.SV.slc 0 Option.none b1))), (Option.some (Go.Eng.AV.sc (Go.Eng.SV.int Go.IntKind.i64 n1))), (Option.some (Go.Eng.AV.sc (Go.Eng.SV.int Go.IntKind.i64 n2)))] [(Option.some (Go.Eng.HE.mk Bool.false (Go.Eng.HB.rows (Go.Sa.B.iKeySlot l1))))] =
      s_laws_markKeySlotS_w_0 N b1 n1 n2 l1 (fun n1 n2 l1 => AG [(Option.some (Go.Eng.AV.sc (Go.Eng.SV.slc 0 Option.none b1))), (Option.some (Go.Eng.AV.sc (Go.Eng.SV.int Go.IntKind.i64 n1))), (Option.some (Go.Eng.AV.sc (Go.Eng.SV.int Go.IntKind.i64 n2)))] [(Option.some (Go.Eng.HE.mk Bool.false (Go.Eng.HB.rows (Go.Sa.B.iKeySlot l1))))])  (fun n5 l4 => KL Go.Eng.Ex.normal [(Option.some (Go.Eng.AV.sc (Go.Eng.SV.int Go.IntKind.i64 n5)))] [(Option.some (Go.Eng.HE.mk Bool.false (Go.Eng.HB.rows (Go.Sa.B.iKeySlot l4))))]) := by kernel_rfl
theorem le_laws_markKeySlotS_w_0 (N : Nat) {R : Type} (b1 : Bool) (KL : Ex → List (Option AV) → Hp E → Option R) : ∀ (f : Nat), ∀ (n1 : Int) (n2 : Int) (l1 : List Go.Sa.KeySlot), iterK (E := E) (O_laws_markKeySlotS_w N) (fun {R} => LI (noIt) 1 36 sl_laws_markKeySlotS_w (R := R)) J_laws_markKeySlotS_w 1 36 0 [0, 1, 5] [1] (body Go.Proofs.Try.f122 0) f [(Option.some (Go.Eng.AV.sc (Go.Eng.SV.slc 0 Option.none b1))), (Option.some (Go.Eng.AV.sc (Go.Eng.SV.int Go.IntKind.i64 n1))), (Option.some (Go.Eng.AV.sc (Go.Eng.SV.int Go.IntKind.i64 n2)))] [(Option.some (Go.Eng.HE.mk Bool.false (Go.Eng.HB.rows (Go.Sa.B.iKeySlot l1))))] KL = l_laws_markKeySlotS_w_0 N b1 (fun n5 l4 => KL Go.Eng.Ex.normal [(Option.some (Go.Eng.AV.sc (Go.Eng.SV.int Go.IntKind.i64 n5)))] [(Option.some (Go.Eng.HE.mk Bool.false (Go.Eng.HB.rows (Go.Sa.B.iKeySlot l4))))]) f n1 n2 l1 := by
  intro f
  induction f with
  | zero => intros; rfl
  | succ f ih =>
    intro n1 n2 l1
    rw [iterK_succ, se_laws_markKeySlotS_w_0]
    exact (congrArg (fun z0 => s_laws_markKeySlotS_w_0 N b1 n1 n2 l1 z0 (fun n5 l4 => KL Go.Eng.Ex.normal [(Option.some (Go.Eng.AV.sc (Go.Eng.SV.int Go.IntKind.i64 n5)))] [(Option.some (Go.Eng.HE.mk Bool.false (Go.Eng.HB.rows (Go.Sa.B.iKeySlot l4))))])) (funext fun n1 => funext fun n2 => funext fun l1 => ih n1 n2 l1))
def i_laws_markKeySlotS_w_0 (N : Nat) {R : Type} (vs : List (Option AV)) (H : Hp E) (KL : Ex → List (Option AV) → Hp E → Option R) : Option R :=
  match vs, H with
  | [(Option.some (Go.Eng.AV.sc (Go.Eng.SV.slc 0 Option.none b1))), (Option.some (Go.Eng.AV.sc (Go.Eng.SV.int Go.IntKind.i64 n1))), (Option.some (Go.Eng.AV.sc (Go.Eng.SV.int Go.IntKind.i64 n2)))], [(Option.some (Go.Eng.HE.mk Bool.false (Go.Eng.HB.rows (Go.Sa.B.iKeySlot l1))))] => c_laws_markKeySlotS_w_0 N b1 n1 n2 l1 (fun n6 l5 => KL Go.Eng.Ex.normal [(Option.some (Go.Eng.AV.sc (Go.Eng.SV.int Go.IntKind.i64 n6)))] [(Option.some (Go.Eng.HE.mk Bool.false (Go.Eng.HB.rows (Go.Sa.B.iKeySlot l5))))])
  | _, _ => none
noncomputable def IT_laws_markKeySlotS_w_0 (N : Nat) : Its E := addIt 0 (i_laws_markKeySlotS_w_0 N) (noIt)
theorem IT_laws_markKeySlotS_w_0_ok (N : Nat) : ItOk (IT_laws_markKeySlotS_w_0 N) 1 36 sl_laws_markKeySlotS_w (lsB Go.Proofs.Try.f122 [0]) :=
  addItB_ok (inner := []) ok (O_laws_markKeySlotS_w_ok N) (jn_ok _ _ _) (noIt_ok) rfl (by kernel_rfl) rfl fun vs H KL r h => by
    unfold i_laws_markKeySlotS_w_0 at h
    split at h
    · exact ⟨_, (le_laws_markKeySlotS_w_0 N _ KL N _ _ _).trans h⟩
    · cases h
def g_laws_markKeySlotS_w (N : Nat) {R : Type} (b : Bool) (n : Int) (l : List Go.Sa.KeySlot) (k : Int → (List Go.Sa.KeySlot) → Option R) : Option R :=
  (c_laws_markKeySlotS_w_0 N b n (0 : Int) l fun n3 l2 =>
  (k n3 l2))
theorem e_laws_markKeySlotS_w (N : Nat) {R : Type} (b : Bool) (n : Int) (l : List Go.Sa.KeySlot) (K : AV → Hp E → Option R) :
    runFnI (E := E) (O_laws_markKeySlotS_w N) (IT_laws_markKeySlotS_w_0 N) sl_laws_markKeySlotS_w J_laws_markKeySlotS_w Go.Proofs.Try.f122 [(Go.Eng.AV.sc (Go.Eng.SV.slc 0 Option.none b)), (Go.Eng.AV.sc (Go.Eng.SV.int Go.IntKind.i64 n))] [(Option.some (Go.Eng.HE.mk Bool.false (Go.Eng.HB.rows (Go.Sa.B.iKeySlot l))))] K =
      g_laws_markKeySlotS_w N b n l (fun n4 l3 => K (Go.Eng.AV.sc (Go.Eng.SV.int Go.IntKind.i64 n4)) [(Option.some (Go.Eng.HE.mk Bool.false (Go.Eng.HB.rows (Go.Sa.B.iKeySlot l3))))]) := by kernel_rfl
def o_laws_markKeySlotS_w (N : Nat) {R : Type} (args : List AV) (H : Hp E) (K : AV → Hp E → Option R) : Option R :=
  match args, H with
  | [(Go.Eng.AV.sc (Go.Eng.SV.slc 0 Option.none b)), (Go.Eng.AV.sc (Go.Eng.SV.int Go.IntKind.i64 n))], [(Option.some (Go.Eng.HE.mk Bool.false (Go.Eng.HB.rows (Go.Sa.B.iKeySlot l))))] => g_laws_markKeySlotS_w N b n l (fun n4 l3 => K (Go.Eng.AV.sc (Go.Eng.SV.int Go.IntKind.i64 n4)) [(Option.some (Go.Eng.HE.mk Bool.false (Go.Eng.HB.rows (Go.Sa.B.iKeySlot l3))))])
  | _, _ => none
theorem o_laws_markKeySlotS_w_ok (N : Nat) : FnOk E 122 (o_laws_markKeySlotS_w N) := by
  intro R args H K r h
  unfold o_laws_markKeySlotS_w at h
  dsimp only at h
  split at h
  · exact fnB_ok (ids := [0]) (top := [0]) ok (O_laws_markKeySlotS_w_ok N) (jn_ok _ _ _) Go.Proofs.Try.func122 (by kernel_rfl) (IT := IT_laws_markKeySlotS_w_0 N) (sl := sl_laws_markKeySlotS_w) (J := J_laws_markKeySlotS_w) (K := K) (H := [(Option.some (Go.Eng.HE.mk Bool.false (Go.Eng.HB.rows (Go.Sa.B.iKeySlot _))))]) (IT_laws_markKeySlotS_w_0_ok N) (by kernel_rfl) rfl ((e_laws_markKeySlotS_w N _ _ _ K).trans h)
  · cases h
/-! ### loop.example/g00038/laws.markVolume -/
abbrev sl_laws_markVolume_w : SlotT := []
abbrev J_laws_markVolume_w : JT := jn [] [] []
noncomputable def O_laws_markVolume_w (N : Nat) : Orc E := addFn 122 (o_laws_markKeySlotS_w N) (noFn)
theorem O_laws_markVolume_w_ok (N : Nat) : OrcOk (O_laws_markVolume_w N) := addFn_ok (o_laws_markKeySlotS_w_ok N) (noFn_ok)
def g_laws_markVolume_w (N : Nat) {R : Type} (b : Bool) (s : ByteArray) (n : Int) (l : List Go.Sa.KeySlot) (k : Int → (List Go.Sa.KeySlot) → Option R) : Option R :=
  (g_laws_markKeySlotS_w N b n l fun n1 l1 =>
  (k n1 l1))
theorem e_laws_markVolume_w (N : Nat) {R : Type} (b : Bool) (s : ByteArray) (n : Int) (l : List Go.Sa.KeySlot) (K : AV → Hp E → Option R) :
    runFnI (E := E) (O_laws_markVolume_w N) (noIt) sl_laws_markVolume_w J_laws_markVolume_w Go.Proofs.Try.f63 [(Go.Eng.AV.agg [(Go.Eng.SV.slc 0 Option.none b), (Go.Eng.SV.str s)]), (Go.Eng.AV.sc (Go.Eng.SV.int Go.IntKind.i64 n))] [(Option.some (Go.Eng.HE.mk Bool.false (Go.Eng.HB.rows (Go.Sa.B.iKeySlot l))))] K =
      g_laws_markVolume_w N b s n l (fun n2 l2 => K (Go.Eng.AV.sc (Go.Eng.SV.int Go.IntKind.i64 n2)) [(Option.some (Go.Eng.HE.mk Bool.false (Go.Eng.HB.rows (Go.Sa.B.iKeySlot l2))))]) := by kernel_rfl
def o_laws_markVolume_w (N : Nat) {R : Type} (args : List AV) (H : Hp E) (K : AV → Hp E → Option R) : Option R :=
  match args, H with
  | [(Go.Eng.AV.agg [(Go.Eng.SV.slc 0 Option.none b), (Go.Eng.SV.str s)]), (Go.Eng.AV.sc (Go.Eng.SV.int Go.IntKind.i64 n))], [(Option.some (Go.Eng.HE.mk Bool.false (Go.Eng.HB.rows (Go.Sa.B.iKeySlot l))))] => g_laws_markVolume_w N b s n l (fun n2 l2 => K (Go.Eng.AV.sc (Go.Eng.SV.int Go.IntKind.i64 n2)) [(Option.some (Go.Eng.HE.mk Bool.false (Go.Eng.HB.rows (Go.Sa.B.iKeySlot l2))))])
  | _, _ => none
theorem o_laws_markVolume_w_ok (N : Nat) : FnOk E 63 (o_laws_markVolume_w N) := by
  intro R args H K r h
  unfold o_laws_markVolume_w at h
  dsimp only at h
  split at h
  · exact fnB_ok (ids := []) (top := []) ok (O_laws_markVolume_w_ok N) (jn_ok _ _ _) Go.Proofs.Try.func63 (by kernel_rfl) (IT := noIt) (sl := sl_laws_markVolume_w) (J := J_laws_markVolume_w) (K := K) (H := [(Option.some (Go.Eng.HE.mk Bool.false (Go.Eng.HB.rows (Go.Sa.B.iKeySlot _))))]) (noIt_ok) (by kernel_rfl) rfl ((e_laws_markVolume_w N _ _ _ _ K).trans h)
  · cases h
end Go.Sa
