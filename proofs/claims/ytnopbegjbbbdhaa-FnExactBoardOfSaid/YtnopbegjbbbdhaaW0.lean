import Derived.Test.YtnopbegjbbbdhaaEnv
import Derived.Test.YtnopbegjbbbdhaaPLb
set_option linter.all false
namespace Go.Sa
open Go Go.Eng Go.Proofs
set_option maxRecDepth 100000
/-! ### loop.example/g00038/laws.szFirmTable -/
abbrev sl_laws_szFirmTable : SlotT := []
abbrev J_laws_szFirmTable : JT := jn [] []
noncomputable def O_laws_szFirmTable (N : Nat) : Orc E := noFn
theorem O_laws_szFirmTable_ok (N : Nat) : OrcOk (O_laws_szFirmTable N) := noFn_ok
def g_laws_szFirmTable (N : Nat) {R : Type} (s : ByteArray) (n : Int) (s1 : ByteArray) (n1 : Int) (k : Int → Option R) : Option R :=
  (cond (decide (((Go.IntKind.wrap Go.IntKind.i64 (n1 - (((ByteArray.size s) : Nat) : Int))) < (0 : Int))))
  (k (-(1 : Int)))
  (cond (decide (((Go.IntKind.wrap Go.IntKind.i64 ((Go.IntKind.wrap Go.IntKind.i64 (n1 - (((ByteArray.size s) : Nat) : Int))) - (((ByteArray.size s1) : Nat) : Int))) < (0 : Int))))
    (k (-(1 : Int)))
    (k (Go.IntKind.wrap Go.IntKind.i64 ((Go.IntKind.wrap Go.IntKind.i64 (n1 - (((ByteArray.size s) : Nat) : Int))) - (((ByteArray.size s1) : Nat) : Int))))))
theorem e_laws_szFirmTable (N : Nat) {R : Type} (s : ByteArray) (n : Int) (s1 : ByteArray) (n1 : Int) (K : AV → Hp E → Option R) :
    runFnI (E := E) (O_laws_szFirmTable N) (noIt) sl_laws_szFirmTable J_laws_szFirmTable Go.Proofs.Try.f78 [(Go.Eng.AV.agg [(Go.Eng.SV.str s), (Go.Eng.SV.int Go.IntKind.i64 n), (Go.Eng.SV.str s1)]), (Go.Eng.AV.sc (Go.Eng.SV.int Go.IntKind.i64 n1))] [] K =
      g_laws_szFirmTable N s n s1 n1 (fun n2 => K (Go.Eng.AV.sc (Go.Eng.SV.int Go.IntKind.i64 n2)) []) := by kernel_rfl
def o_laws_szFirmTable (N : Nat) {R : Type} (args : List AV) (H : Hp E) (K : AV → Hp E → Option R) : Option R :=
  match args, H with
  | [(Go.Eng.AV.agg [(Go.Eng.SV.str s), (Go.Eng.SV.int Go.IntKind.i64 n), (Go.Eng.SV.str s1)]), (Go.Eng.AV.sc (Go.Eng.SV.int Go.IntKind.i64 n1))], [] => g_laws_szFirmTable N s n s1 n1 (fun n2 => K (Go.Eng.AV.sc (Go.Eng.SV.int Go.IntKind.i64 n2)) [])
  | _, _ => none
theorem o_laws_szFirmTable_ok (N : Nat) : FnOk E 78 (o_laws_szFirmTable N) := by
  intro R args H K r h
  unfold o_laws_szFirmTable at h
  dsimp only at h
  split at h
  · exact fnB_ok (ids := []) (top := []) ok (O_laws_szFirmTable_ok N) (jn_ok _ _) Go.Proofs.Try.func78 (by kernel_rfl) (IT := noIt) (sl := sl_laws_szFirmTable) (J := J_laws_szFirmTable) (K := K) (H := []) (noIt_ok) (by kernel_rfl) rfl ((e_laws_szFirmTable N _ _ _ _ K).trans h)
  · cases h
/-! ### loop.example/g00038/laws.szFirmTableS -/
abbrev sl_laws_szFirmTableS_r : SlotT := [(0, ([0, 1, 5], [1, 4]))]
abbrev J_laws_szFirmTableS_r : JT := jn [] []
noncomputable def O_laws_szFirmTableS_r (N : Nat) : Orc E := addFn 78 (o_laws_szFirmTable N) (noFn)
theorem O_laws_szFirmTableS_r_ok (N : Nat) : OrcOk (O_laws_szFirmTableS_r N) := addFn_ok (o_laws_szFirmTable_ok N) (noFn_ok)
def s_laws_szFirmTableS_r_0 (N : Nat) {R : Type} (b1 : Bool) (l1 : List Go.Sa.FirmTable) (n1 : Int) (n2 : Int) (ag : Int → Int → Option R)  (kR : Int → Option R) (kN : Int → Option R) : Option R :=
  (cond (decide ((n2 < (((List.length l1) : Nat) : Int))))
  (cond ((decide (((0 : Int) ≤ n2))) && (decide ((n2 < (((List.length l1) : Nat) : Int)))))
    (elemK l1 (Int.toNat n2) fun x =>
      (g_laws_szFirmTable N (Go.Sa.FirmTable.fName x) (Go.Sa.FirmTable.fRev x) (Go.Sa.FirmTable.fBody x) n1 fun n3 =>
      (cond (decide ((n3 < (0 : Int))))
      (kR n3)
      (ag n3 (Go.IntKind.wrap Go.IntKind.i64 (n2 + (1 : Int)))))))
    none)
  (kN n1))
def l_laws_szFirmTableS_r_0 (N : Nat) {R : Type} (b1 : Bool) (l1 : List Go.Sa.FirmTable) (kR : Int → Option R) (kN : Int → Option R) : Nat → Int → Int → Option R
  | 0, _, _ => none
  | f + 1, n1, n2 => s_laws_szFirmTableS_r_0 N b1 l1 n1 n2 (fun n1 n2 => l_laws_szFirmTableS_r_0 N b1 l1 kR kN f n1 n2)  kR kN
def c_laws_szFirmTableS_r_0 (N : Nat) {R : Type} (b1 : Bool) (l1 : List Go.Sa.FirmTable) (n1 : Int) (n2 : Int) (kR : Int → Option R) (kN : Int → Option R) : Option R := l_laws_szFirmTableS_r_0 N b1 l1 kR kN N n1 n2
theorem se_laws_szFirmTableS_r_0 (N : Nat) {R : Type} (b1 : Bool) (l1 : List Go.Sa.FirmTable) (n1 : Int) (n2 : Int) (AG : List (Option AV) → Hp E → Option R) (KL : Ex → List (Option AV) → Hp E → Option R) :
    iterStep (E := E) (O_laws_szFirmTableS_r N) (fun {R} => LI (noIt) 1 27 sl_laws_szFirmTableS_r (R := R)) J_laws_szFirmTableS_r 1 27 0 [0, 1, 5] [1, 4] (body Go.Proofs.Try.f25 0) AG KL [(Option.some (Go.Eng.AV.sc (Go.Eng.SV.slc 0 Option.none b1))), (Option.some (Go.Eng.AV.sc (Go.Eng.SV.int Go.IntKind.i64 n1))), (Option.some (Go.Eng.AV.sc (Go.Eng.SV.int Go.IntKind.i64 n2)))] [(Option.some (Go.Eng.HE.mk Bool.true (Go.Eng.HB.rows (Go.Sa.B.lFirmTable l1))))] =
      s_laws_szFirmTableS_r_0 N b1 l1 n1 n2 (fun n1 n2 => AG [(Option.some (Go.Eng.AV.sc (Go.Eng.SV.slc 0 Option.none b1))), (Option.some (Go.Eng.AV.sc (Go.Eng.SV.int Go.IntKind.i64 n1))), (Option.some (Go.Eng.AV.sc (Go.Eng.SV.int Go.IntKind.i64 n2)))] [(Option.some (Go.Eng.HE.mk Bool.true (Go.Eng.HB.rows (Go.Sa.B.lFirmTable l1))))])  (fun n7 => KL Go.Eng.Ex.ret [(Option.some (Go.Eng.AV.sc (Go.Eng.SV.int Go.IntKind.i64 n7))), (Option.some (Go.Eng.AV.sc (Go.Eng.SV.int Go.IntKind.i64 (-(1 : Int)))))] [(Option.some (Go.Eng.HE.mk Bool.true (Go.Eng.HB.rows (Go.Sa.B.lFirmTable l1))))]) (fun n8 => KL Go.Eng.Ex.normal [(Option.some (Go.Eng.AV.sc (Go.Eng.SV.int Go.IntKind.i64 n8))), Option.none] [(Option.some (Go.Eng.HE.mk Bool.true (Go.Eng.HB.rows (Go.Sa.B.lFirmTable l1))))]) := by kernel_rfl
theorem le_laws_szFirmTableS_r_0 (N : Nat) {R : Type} (b1 : Bool) (l1 : List Go.Sa.FirmTable) (KL : Ex → List (Option AV) → Hp E → Option R) : ∀ (f : Nat), ∀ (n1 : Int) (n2 : Int), iterK (E := E) (O_laws_szFirmTableS_r N) (fun {R} => LI (noIt) 1 27 sl_laws_szFirmTableS_r (R := R)) J_laws_szFirmTableS_r 1 27 0 [0, 1, 5] [1, 4] (body Go.Proofs.Try.f25 0) f [(Option.some (Go.Eng.AV.sc (Go.Eng.SV.slc 0 Option.none b1))), (Option.some (Go.Eng.AV.sc (Go.Eng.SV.int Go.IntKind.i64 n1))), (Option.some (Go.Eng.AV.sc (Go.Eng.SV.int Go.IntKind.i64 n2)))] [(Option.some (Go.Eng.HE.mk Bool.true (Go.Eng.HB.rows (Go.Sa.B.lFirmTable l1))))] KL = l_laws_szFirmTableS_r_0 N b1 l1 (fun n7 => KL Go.Eng.Ex.ret [(Option.some (Go.Eng.AV.sc (Go.Eng.SV.int Go.IntKind.i64 n7))), (Option.some (Go.Eng.AV.sc (Go.Eng.SV.int Go.IntKind.i64 (-(1 : Int)))))] [(Option.some (Go.Eng.HE.mk Bool.true (Go.Eng.HB.rows (Go.Sa.B.lFirmTable l1))))]) (fun n8 => KL Go.Eng.Ex.normal [(Option.some (Go.Eng.AV.sc (Go.Eng.SV.int Go.IntKind.i64 n8))), Option.none] [(Option.some (Go.Eng.HE.mk Bool.true (Go.Eng.HB.rows (Go.Sa.B.lFirmTable l1))))]) f n1 n2 := by
  intro f
  induction f with
  | zero => intros; rfl
  | succ f ih =>
    intro n1 n2
    rw [iterK_succ, se_laws_szFirmTableS_r_0]
    exact (congrArg (fun z0 => s_laws_szFirmTableS_r_0 N b1 l1 n1 n2 z0 (fun n7 => KL Go.Eng.Ex.ret [(Option.some (Go.Eng.AV.sc (Go.Eng.SV.int Go.IntKind.i64 n7))), (Option.some (Go.Eng.AV.sc (Go.Eng.SV.int Go.IntKind.i64 (-(1 : Int)))))] [(Option.some (Go.Eng.HE.mk Bool.true (Go.Eng.HB.rows (Go.Sa.B.lFirmTable l1))))]) (fun n8 => KL Go.Eng.Ex.normal [(Option.some (Go.Eng.AV.sc (Go.Eng.SV.int Go.IntKind.i64 n8))), Option.none] [(Option.some (Go.Eng.HE.mk Bool.true (Go.Eng.HB.rows (Go.Sa.B.lFirmTable l1))))])) (funext fun n1 => funext fun n2 => ih n1 n2))
def i_laws_szFirmTableS_r_0 (N : Nat) {R : Type} (vs : List (Option AV)) (H : Hp E) (KL : Ex → List (Option AV) → Hp E → Option R) : Option R :=
  match vs, H with
  | [(Option.some (Go.Eng.AV.sc (Go.Eng.SV.slc 0 Option.none b1))), (Option.some (Go.Eng.AV.sc (Go.Eng.SV.int Go.IntKind.i64 n1))), (Option.some (Go.Eng.AV.sc (Go.Eng.SV.int Go.IntKind.i64 n2)))], [(Option.some (Go.Eng.HE.mk Bool.true (Go.Eng.HB.rows (Go.Sa.B.lFirmTable l1))))] => c_laws_szFirmTableS_r_0 N b1 l1 n1 n2 (fun n9 => KL Go.Eng.Ex.ret [(Option.some (Go.Eng.AV.sc (Go.Eng.SV.int Go.IntKind.i64 n9))), (Option.some (Go.Eng.AV.sc (Go.Eng.SV.int Go.IntKind.i64 (-(1 : Int)))))] [(Option.some (Go.Eng.HE.mk Bool.true (Go.Eng.HB.rows (Go.Sa.B.lFirmTable l1))))]) (fun n10 => KL Go.Eng.Ex.normal [(Option.some (Go.Eng.AV.sc (Go.Eng.SV.int Go.IntKind.i64 n10))), Option.none] [(Option.some (Go.Eng.HE.mk Bool.true (Go.Eng.HB.rows (Go.Sa.B.lFirmTable l1))))])
  | _, _ => none
noncomputable def IT_laws_szFirmTableS_r_0 (N : Nat) : Its E := addIt 0 (i_laws_szFirmTableS_r_0 N) (noIt)
theorem IT_laws_szFirmTableS_r_0_ok (N : Nat) : ItOk (IT_laws_szFirmTableS_r_0 N) 1 27 sl_laws_szFirmTableS_r (lsB Go.Proofs.Try.f25 [0]) :=
  addItB_ok (inner := []) ok (O_laws_szFirmTableS_r_ok N) (jn_ok _ _) (noIt_ok) rfl (by kernel_rfl) rfl fun vs H KL r h => by
    unfold i_laws_szFirmTableS_r_0 at h
    split at h
    · exact ⟨_, (le_laws_szFirmTableS_r_0 N _ _ KL N _ _).trans h⟩
    · cases h
def g_laws_szFirmTableS_r (N : Nat) {R : Type} (b : Bool) (n : Int) (l : List Go.Sa.FirmTable) (k : Int → Option R) : Option R :=
  (cond (decide (((Go.IntKind.wrap Go.IntKind.i64 (n - (((List.length l) : Nat) : Int))) < (0 : Int))))
  (k (-(1 : Int)))
  (c_laws_szFirmTableS_r_0 N b l (Go.IntKind.wrap Go.IntKind.i64 (n - (((List.length l) : Nat) : Int))) (0 : Int) (fun n4 =>
    (k (-(1 : Int)))) (fun n5 =>
    (k n5))))
theorem e_laws_szFirmTableS_r (N : Nat) {R : Type} (b : Bool) (n : Int) (l : List Go.Sa.FirmTable) (K : AV → Hp E → Option R) :
    runFnI (E := E) (O_laws_szFirmTableS_r N) (IT_laws_szFirmTableS_r_0 N) sl_laws_szFirmTableS_r J_laws_szFirmTableS_r Go.Proofs.Try.f25 [(Go.Eng.AV.sc (Go.Eng.SV.slc 0 Option.none b)), (Go.Eng.AV.sc (Go.Eng.SV.int Go.IntKind.i64 n))] [(Option.some (Go.Eng.HE.mk Bool.true (Go.Eng.HB.rows (Go.Sa.B.lFirmTable l))))] K =
      g_laws_szFirmTableS_r N b n l (fun n6 => K (Go.Eng.AV.sc (Go.Eng.SV.int Go.IntKind.i64 n6)) [(Option.some (Go.Eng.HE.mk Bool.true (Go.Eng.HB.rows (Go.Sa.B.lFirmTable l))))]) := by kernel_rfl
def o_laws_szFirmTableS_r (N : Nat) {R : Type} (args : List AV) (H : Hp E) (K : AV → Hp E → Option R) : Option R :=
  match args, H with
  | [(Go.Eng.AV.sc (Go.Eng.SV.slc 0 Option.none b)), (Go.Eng.AV.sc (Go.Eng.SV.int Go.IntKind.i64 n))], [(Option.some (Go.Eng.HE.mk Bool.true (Go.Eng.HB.rows (Go.Sa.B.lFirmTable l))))] => g_laws_szFirmTableS_r N b n l (fun n6 => K (Go.Eng.AV.sc (Go.Eng.SV.int Go.IntKind.i64 n6)) [(Option.some (Go.Eng.HE.mk Bool.true (Go.Eng.HB.rows (Go.Sa.B.lFirmTable l))))])
  | _, _ => none
theorem o_laws_szFirmTableS_r_ok (N : Nat) : FnOk E 25 (o_laws_szFirmTableS_r N) := by
  intro R args H K r h
  unfold o_laws_szFirmTableS_r at h
  dsimp only at h
  split at h
  · exact fnB_ok (ids := [0]) (top := [0]) ok (O_laws_szFirmTableS_r_ok N) (jn_ok _ _) Go.Proofs.Try.func25 (by kernel_rfl) (IT := IT_laws_szFirmTableS_r_0 N) (sl := sl_laws_szFirmTableS_r) (J := J_laws_szFirmTableS_r) (K := K) (H := [(Option.some (Go.Eng.HE.mk Bool.true (Go.Eng.HB.rows (Go.Sa.B.lFirmTable _))))]) (IT_laws_szFirmTableS_r_0_ok N) (by kernel_rfl) rfl ((e_laws_szFirmTableS_r N _ _ _ K).trans h)
  · cases h
/-! ### loop.example/g00038/laws.toFirmTable -/
abbrev sl_laws_toFirmTable : SlotT := []
abbrev J_laws_toFirmTable : JT := jn [] []
noncomputable def O_laws_toFirmTable (N : Nat) : Orc E := noFn
theorem O_laws_toFirmTable_ok (N : Nat) : OrcOk (O_laws_toFirmTable N) := noFn_ok
def g_laws_toFirmTable (N : Nat) {R : Type} (s : ByteArray) (n : Int) (s1 : ByteArray) (k : Option R) : Option R :=
  k
theorem e_laws_toFirmTable (N : Nat) {R : Type} (s : ByteArray) (n : Int) (s1 : ByteArray) (K : AV → Hp E → Option R) :
    runFnI (E := E) (O_laws_toFirmTable N) (noIt) sl_laws_toFirmTable J_laws_toFirmTable Go.Proofs.Try.f81 [(Go.Eng.AV.agg [(Go.Eng.SV.str s), (Go.Eng.SV.int Go.IntKind.i64 n), (Go.Eng.SV.str s1)])] [] K =
      g_laws_toFirmTable N s n s1 (K (Go.Eng.AV.agg [(Go.Eng.SV.str s), (Go.Eng.SV.int Go.IntKind.i64 n), (Go.Eng.SV.str s1)]) []) := by kernel_rfl
def o_laws_toFirmTable (N : Nat) {R : Type} (args : List AV) (H : Hp E) (K : AV → Hp E → Option R) : Option R :=
  match args, H with
  | [(Go.Eng.AV.agg [(Go.Eng.SV.str s), (Go.Eng.SV.int Go.IntKind.i64 n), (Go.Eng.SV.str s1)])], [] => g_laws_toFirmTable N s n s1 (K (Go.Eng.AV.agg [(Go.Eng.SV.str s), (Go.Eng.SV.int Go.IntKind.i64 n), (Go.Eng.SV.str s1)]) [])
  | _, _ => none
theorem o_laws_toFirmTable_ok (N : Nat) : FnOk E 81 (o_laws_toFirmTable N) := by
  intro R args H K r h
  unfold o_laws_toFirmTable at h
  dsimp only at h
  split at h
  · exact fnB_ok (ids := []) (top := []) ok (O_laws_toFirmTable_ok N) (jn_ok _ _) Go.Proofs.Try.func81 (by kernel_rfl) (IT := noIt) (sl := sl_laws_toFirmTable) (J := J_laws_toFirmTable) (K := K) (H := []) (noIt_ok) (by kernel_rfl) rfl ((e_laws_toFirmTable N _ _ _ K).trans h)
  · cases h
/-! ### loop.example/g00038/laws.toFirmTableS -/
abbrev sl_laws_toFirmTableS_r : SlotT := [(0, ([0, 3, 4], [3]))]
abbrev J_laws_toFirmTableS_r : JT := jn [] []
noncomputable def O_laws_toFirmTableS_r (N : Nat) : Orc E := addFn 81 (o_laws_toFirmTable N) (noFn)
theorem O_laws_toFirmTableS_r_ok (N : Nat) : OrcOk (O_laws_toFirmTableS_r N) := addFn_ok (o_laws_toFirmTable_ok N) (noFn_ok)
def s_laws_toFirmTableS_r_0 (N : Nat) {R : Type} (b1 : Bool) (b2 : Bool) (l1 : List Go.Sa.FirmTable) (n : Int) (l2 : List Go.Sa.FirmTable) (ag : Int → (List Go.Sa.FirmTable) → Option R)  (kN : (List Go.Sa.FirmTable) → Option R) : Option R :=
  (cond (decide ((n < (((List.length l1) : Nat) : Int))))
  (cond ((decide (((0 : Int) ≤ n))) && (decide ((n < (((List.length l1) : Nat) : Int)))))
    (elemK l1 (Int.toNat n) fun x =>
      (g_laws_toFirmTable N (Go.Sa.FirmTable.fName x) (Go.Sa.FirmTable.fRev x) (Go.Sa.FirmTable.fBody x) 
      (cond ((decide (((0 : Int) ≤ n))) && (decide ((n < (((List.length l2) : Nat) : Int)))))
      (elemK l2 (Int.toNat n) fun x1 =>
        (cond (Nat.blt (Int.toNat n) (List.length l2))
        (ag (Go.IntKind.wrap Go.IntKind.i64 (n + (1 : Int))) (Go.Eng.nset l2 (Int.toNat n) (Go.Sa.FirmTable.mk (Go.Sa.FirmTable.fName x) (Go.Sa.FirmTable.fRev x) (Go.Sa.FirmTable.fBody x))))
        none))
      none)))
    none)
  (kN l2))
def l_laws_toFirmTableS_r_0 (N : Nat) {R : Type} (b1 : Bool) (b2 : Bool) (l1 : List Go.Sa.FirmTable) (kN : (List Go.Sa.FirmTable) → Option R) : Nat → Int → (List Go.Sa.FirmTable) → Option R
  | 0, _, _ => none
  | f + 1, n, l2 => s_laws_toFirmTableS_r_0 N b1 b2 l1 n l2 (fun n l2 => l_laws_toFirmTableS_r_0 N b1 b2 l1 kN f n l2)  kN
def c_laws_toFirmTableS_r_0 (N : Nat) {R : Type} (b1 : Bool) (b2 : Bool) (l1 : List Go.Sa.FirmTable) (n : Int) (l2 : List Go.Sa.FirmTable) (kN : (List Go.Sa.FirmTable) → Option R) : Option R := l_laws_toFirmTableS_r_0 N b1 b2 l1 kN N n l2
theorem se_laws_toFirmTableS_r_0 (N : Nat) {R : Type} (b1 : Bool) (b2 : Bool) (l1 : List Go.Sa.FirmTable) (n : Int) (l2 : List Go.Sa.FirmTable) (AG : List (Option AV) → Hp E → Option R) (KL : Ex → List (Option AV) → Hp E → Option R) :
    iterStep (E := E) (O_laws_toFirmTableS_r N) (fun {R} => LI (noIt) 1 23 sl_laws_toFirmTableS_r (R := R)) J_laws_toFirmTableS_r 1 23 0 [0, 3, 4] [3] (body Go.Proofs.Try.f27 0) AG KL [(Option.some (Go.Eng.AV.sc (Go.Eng.SV.slc 0 Option.none b1))), (Option.some (Go.Eng.AV.sc (Go.Eng.SV.slc 1 Option.none b2))), (Option.some (Go.Eng.AV.sc (Go.Eng.SV.int Go.IntKind.i64 n)))] [(Option.some (Go.Eng.HE.mk Bool.true (Go.Eng.HB.rows (Go.Sa.B.lFirmTable l1)))), (Option.some (Go.Eng.HE.mk Bool.false (Go.Eng.HB.rows (Go.Sa.B.iFirmTable l2))))] =
      s_laws_toFirmTableS_r_0 N b1 b2 l1 n l2 (fun n l2 => AG [(Option.some (Go.Eng.AV.sc (Go.Eng.SV.slc 0 Option.none b1))), (Option.some (Go.Eng.AV.sc (Go.Eng.SV.slc 1 Option.none b2))), (Option.some (Go.Eng.AV.sc (Go.Eng.SV.int Go.IntKind.i64 n)))] [(Option.some (Go.Eng.HE.mk Bool.true (Go.Eng.HB.rows (Go.Sa.B.lFirmTable l1)))), (Option.some (Go.Eng.HE.mk Bool.false (Go.Eng.HB.rows (Go.Sa.B.iFirmTable l2))))])  (fun l5 => KL Go.Eng.Ex.normal [(Option.some (Go.Eng.AV.sc (Go.Eng.SV.slc 1 Option.none b2)))] [(Option.some (Go.Eng.HE.mk Bool.true (Go.Eng.HB.rows (Go.Sa.B.lFirmTable l1)))), (Option.some (Go.Eng.HE.mk Bool.false (Go.Eng.HB.rows (Go.Sa.B.iFirmTable l5))))]) := by kernel_rfl
theorem le_laws_toFirmTableS_r_0 (N : Nat) {R : Type} (b1 : Bool) (b2 : Bool) (l1 : List Go.Sa.FirmTable) (KL : Ex → List (Option AV) → Hp E → Option R) : ∀ (f : Nat), ∀ (n : Int) (l2 : List Go.Sa.FirmTable), iterK (E := E) (O_laws_toFirmTableS_r N) (fun {R} => LI (noIt) 1 23 sl_laws_toFirmTableS_r (R := R)) J_laws_toFirmTableS_r 1 23 0 [0, 3, 4] [3] (body Go.Proofs.Try.f27 0) f [(Option.some (Go.Eng.AV.sc (Go.Eng.SV.slc 0 Option.none b1))), (Option.some (Go.Eng.AV.sc (Go.Eng.SV.slc 1 Option.none b2))), (Option.some (Go.Eng.AV.sc (Go.Eng.SV.int Go.IntKind.i64 n)))] [(Option.some (Go.Eng.HE.mk Bool.true (Go.Eng.HB.rows (Go.Sa.B.lFirmTable l1)))), (Option.some (Go.Eng.HE.mk Bool.false (Go.Eng.HB.rows (Go.Sa.B.iFirmTable l2))))] KL = l_laws_toFirmTableS_r_0 N b1 b2 l1 (fun l5 => KL Go.Eng.Ex.normal [(Option.some (Go.Eng.AV.sc (Go.Eng.SV.slc 1 Option.none b2)))] [(Option.some (Go.Eng.HE.mk Bool.true (Go.Eng.HB.rows (Go.Sa.B.lFirmTable l1)))), (Option.some (Go.Eng.HE.mk Bool.false (Go.Eng.HB.rows (Go.Sa.B.iFirmTable l5))))]) f n l2 := by
  intro f
  induction f with
  | zero => intros; rfl
  | succ f ih =>
    intro n l2
    rw [iterK_succ, se_laws_toFirmTableS_r_0]
    exact (congrArg (fun z0 => s_laws_toFirmTableS_r_0 N b1 b2 l1 n l2 z0 (fun l5 => KL Go.Eng.Ex.normal [(Option.some (Go.Eng.AV.sc (Go.Eng.SV.slc 1 Option.none b2)))] [(Option.some (Go.Eng.HE.mk Bool.true (Go.Eng.HB.rows (Go.Sa.B.lFirmTable l1)))), (Option.some (Go.Eng.HE.mk Bool.false (Go.Eng.HB.rows (Go.Sa.B.iFirmTable l5))))])) (funext fun n => funext fun l2 => ih n l2))
def i_laws_toFirmTableS_r_0 (N : Nat) {R : Type} (vs : List (Option AV)) (H : Hp E) (KL : Ex → List (Option AV) → Hp E → Option R) : Option R :=
  match vs, H with
  | [(Option.some (Go.Eng.AV.sc (Go.Eng.SV.slc 0 Option.none b1))), (Option.some (Go.Eng.AV.sc (Go.Eng.SV.slc 1 Option.none b2))), (Option.some (Go.Eng.AV.sc (Go.Eng.SV.int Go.IntKind.i64 n)))], [(Option.some (Go.Eng.HE.mk Bool.true (Go.Eng.HB.rows (Go.Sa.B.lFirmTable l1)))), (Option.some (Go.Eng.HE.mk Bool.false (Go.Eng.HB.rows (Go.Sa.B.iFirmTable l2))))] => c_laws_toFirmTableS_r_0 N b1 b2 l1 n l2 (fun l6 => KL Go.Eng.Ex.normal [(Option.some (Go.Eng.AV.sc (Go.Eng.SV.slc 1 Option.none b2)))] [(Option.some (Go.Eng.HE.mk Bool.true (Go.Eng.HB.rows (Go.Sa.B.lFirmTable l1)))), (Option.some (Go.Eng.HE.mk Bool.false (Go.Eng.HB.rows (Go.Sa.B.iFirmTable l6))))])
  | _, _ => none
noncomputable def IT_laws_toFirmTableS_r_0 (N : Nat) : Its E := addIt 0 (i_laws_toFirmTableS_r_0 N) (noIt)
theorem IT_laws_toFirmTableS_r_0_ok (N : Nat) : ItOk (IT_laws_toFirmTableS_r_0 N) 1 23 sl_laws_toFirmTableS_r (lsB Go.Proofs.Try.f27 [0]) :=
  addItB_ok (inner := []) ok (O_laws_toFirmTableS_r_ok N) (jn_ok _ _) (noIt_ok) rfl (by kernel_rfl) rfl fun vs H KL r h => by
    unfold i_laws_toFirmTableS_r_0 at h
    split at h
    · exact ⟨_, (le_laws_toFirmTableS_r_0 N _ _ _ KL N _ _).trans h⟩
    · cases h
def g_laws_toFirmTableS_r (N : Nat) {R : Type} (b : Bool) (l : List Go.Sa.FirmTable) (k : (List Go.Sa.FirmTable) → Option R) : Option R :=
  (cond (((decide (((((List.length l) : Nat) : Int) = (((List.length l) : Nat) : Int)))) && Bool.true) && (Go.Eng.roomOk (Int.toNat (((List.length l) : Nat) : Int)) 40))
  (c_laws_toFirmTableS_r_0 N b Bool.false l (0 : Int) (List.replicate (Int.toNat (((List.length l) : Nat) : Int)) (Go.Sa.FirmTable.mk (ByteArray.mk (List.toArray [])) (0 : Int) (ByteArray.mk (List.toArray [])))) fun l3 =>
    (k l3))
  none)
theorem e_laws_toFirmTableS_r (N : Nat) {R : Type} (b : Bool) (l : List Go.Sa.FirmTable) (K : AV → Hp E → Option R) :
    runFnI (E := E) (O_laws_toFirmTableS_r N) (IT_laws_toFirmTableS_r_0 N) sl_laws_toFirmTableS_r J_laws_toFirmTableS_r Go.Proofs.Try.f27 [(Go.Eng.AV.sc (Go.Eng.SV.slc 0 Option.none b))] [(Option.some (Go.Eng.HE.mk Bool.true (Go.Eng.HB.rows (Go.Sa.B.lFirmTable l))))] K =
      g_laws_toFirmTableS_r N b l (fun l4 => K (Go.Eng.AV.sc (Go.Eng.SV.slc 1 Option.none Bool.false)) [(Option.some (Go.Eng.HE.mk Bool.true (Go.Eng.HB.rows (Go.Sa.B.lFirmTable l)))), (Option.some (Go.Eng.HE.mk Bool.false (Go.Eng.HB.rows (Go.Sa.B.iFirmTable l4))))]) := by kernel_rfl
def o_laws_toFirmTableS_r (N : Nat) {R : Type} (args : List AV) (H : Hp E) (K : AV → Hp E → Option R) : Option R :=
  match args, H with
  | [(Go.Eng.AV.sc (Go.Eng.SV.slc 0 Option.none b))], [(Option.some (Go.Eng.HE.mk Bool.true (Go.Eng.HB.rows (Go.Sa.B.lFirmTable l))))] => g_laws_toFirmTableS_r N b l (fun l4 => K (Go.Eng.AV.sc (Go.Eng.SV.slc 1 Option.none Bool.false)) [(Option.some (Go.Eng.HE.mk Bool.true (Go.Eng.HB.rows (Go.Sa.B.lFirmTable l)))), (Option.some (Go.Eng.HE.mk Bool.false (Go.Eng.HB.rows (Go.Sa.B.iFirmTable l4))))])
  | _, _ => none
theorem o_laws_toFirmTableS_r_ok (N : Nat) : FnOk E 27 (o_laws_toFirmTableS_r N) := by
  intro R args H K r h
  unfold o_laws_toFirmTableS_r at h
  dsimp only at h
  split at h
  · exact fnB_ok (ids := [0]) (top := [0]) ok (O_laws_toFirmTableS_r_ok N) (jn_ok _ _) Go.Proofs.Try.func27 (by kernel_rfl) (IT := IT_laws_toFirmTableS_r_0 N) (sl := sl_laws_toFirmTableS_r) (J := J_laws_toFirmTableS_r) (K := K) (H := [(Option.some (Go.Eng.HE.mk Bool.true (Go.Eng.HB.rows (Go.Sa.B.lFirmTable _))))]) (IT_laws_toFirmTableS_r_0_ok N) (by kernel_rfl) rfl ((e_laws_toFirmTableS_r N _ _ K).trans h)
  · cases h
/-! ### loop.example/g00038/spec.l01Word -/
abbrev sl_spec_l01Word : SlotT := []
abbrev J_spec_l01Word : JT := jn [] []
noncomputable def O_spec_l01Word (N : Nat) : Orc E := noFn
theorem O_spec_l01Word_ok (N : Nat) : OrcOk (O_spec_l01Word N) := noFn_ok
def g_spec_l01Word (N : Nat) {R : Type} (s : ByteArray) (n : Int) (k : Int → Option R) : Option R :=
  (cond ((decide (((0 : Int) ≤ n))) && (decide ((n < (((ByteArray.size s) : Nat) : Int)))))
  (cond ((decide (((0 : Int) ≤ (Go.IntKind.wrap Go.IntKind.i64 (n + (1 : Int)))))) && (decide (((Go.IntKind.wrap Go.IntKind.i64 (n + (1 : Int))) < (((ByteArray.size s) : Nat) : Int)))))
    (cond ((decide (((0 : Int) ≤ (Go.IntKind.wrap Go.IntKind.i64 (n + (2 : Int)))))) && (decide (((Go.IntKind.wrap Go.IntKind.i64 (n + (2 : Int))) < (((ByteArray.size s) : Nat) : Int)))))
      (cond ((decide (((0 : Int) ≤ (Go.IntKind.wrap Go.IntKind.i64 (n + (3 : Int)))))) && (decide (((Go.IntKind.wrap Go.IntKind.i64 (n + (3 : Int))) < (((ByteArray.size s) : Nat) : Int)))))
        (k (Go.IntKind.wrap Go.IntKind.i64 ((Go.IntKind.wrap Go.IntKind.i64 ((Go.IntKind.wrap Go.IntKind.i64 ((Go.IntKind.wrap Go.IntKind.i64 (Go.Eng.bt s (Int.toNat n))) + (Go.IntKind.wrap Go.IntKind.i64 ((Go.IntKind.wrap Go.IntKind.i64 (Go.Eng.bt s (Int.toNat (Go.IntKind.wrap Go.IntKind.i64 (n + (1 : Int)))))) * (256 : Int))))) + (Go.IntKind.wrap Go.IntKind.i64 ((Go.IntKind.wrap Go.IntKind.i64 (Go.Eng.bt s (Int.toNat (Go.IntKind.wrap Go.IntKind.i64 (n + (2 : Int)))))) * (65536 : Int))))) + (Go.IntKind.wrap Go.IntKind.i64 ((Go.IntKind.wrap Go.IntKind.i64 (Go.Eng.bt s (Int.toNat (Go.IntKind.wrap Go.IntKind.i64 (n + (3 : Int)))))) * (16777216 : Int))))))
        none)
      none)
    none)
  none)
theorem e_spec_l01Word (N : Nat) {R : Type} (s : ByteArray) (n : Int) (K : AV → Hp E → Option R) :
    runFnI (E := E) (O_spec_l01Word N) (noIt) sl_spec_l01Word J_spec_l01Word Go.Proofs.Try.f79 [(Go.Eng.AV.sc (Go.Eng.SV.str s)), (Go.Eng.AV.sc (Go.Eng.SV.int Go.IntKind.i64 n))] [] K =
      g_spec_l01Word N s n (fun n1 => K (Go.Eng.AV.sc (Go.Eng.SV.int Go.IntKind.i64 n1)) []) := by kernel_rfl
def o_spec_l01Word (N : Nat) {R : Type} (args : List AV) (H : Hp E) (K : AV → Hp E → Option R) : Option R :=
  match args, H with
  | [(Go.Eng.AV.sc (Go.Eng.SV.str s)), (Go.Eng.AV.sc (Go.Eng.SV.int Go.IntKind.i64 n))], [] => g_spec_l01Word N s n (fun n1 => K (Go.Eng.AV.sc (Go.Eng.SV.int Go.IntKind.i64 n1)) [])
  | _, _ => none
theorem o_spec_l01Word_ok (N : Nat) : FnOk E 79 (o_spec_l01Word N) := by
  intro R args H K r h
  unfold o_spec_l01Word at h
  dsimp only at h
  split at h
  · exact fnB_ok (ids := []) (top := []) ok (O_spec_l01Word_ok N) (jn_ok _ _) Go.Proofs.Try.func79 (by kernel_rfl) (IT := noIt) (sl := sl_spec_l01Word) (J := J_spec_l01Word) (K := K) (H := []) (noIt_ok) (by kernel_rfl) rfl ((e_spec_l01Word N _ _ K).trans h)
  · cases h
/-! ### loop.example/g00038/spec.BoardFault -/
abbrev sl_spec_BoardFault_w : SlotT := [(0, ([1, 3], [2]))]
abbrev J_spec_BoardFault_w : JT := jn [(1, [(28, .b)]), (7, [(84, .b)])] []
noncomputable def O_spec_BoardFault_w (N : Nat) : Orc E := noFn
theorem O_spec_BoardFault_w_ok (N : Nat) : OrcOk (O_spec_BoardFault_w N) := noFn_ok
def s_spec_BoardFault_w_0 (N : Nat) {R : Type} (l1 : List Go.Sa.Device) (n3 : Int) (n4 : Int) (b1 : Bool) (n2 : Int) (ag : Int → Option R)  (kR : Option R) (kN : Option R) : Option R :=
  (cond (decide ((n2 < (((List.length l1) : Nat) : Int))))
  (cond ((decide (((0 : Int) ≤ n2))) && (decide ((n2 < (((List.length l1) : Nat) : Int)))))
    (elemK l1 (Int.toNat n2) fun x =>
      (oK (cond (decide (((Go.Sa.Device.fKind x) < (1 : Int))))
        (some Bool.true)
        (cond (decide (((Go.Sa.Device.fKind x) > (255 : Int))))
          (some Bool.true)
          (cond (decide (((Go.Sa.Device.fPort x) < (0 : Int))))
            (some Bool.true)
            (cond (decide (((Go.Sa.Device.fPort x) > (2047 : Int))))
              (some Bool.true)
              (cond (decide (((Go.Sa.Device.fLine x) < (0 : Int))))
                (some Bool.true)
                (cond (decide (((Go.Sa.Device.fLine x) > (6 : Int))))
                  (some Bool.true)
                  (cond (decide ((n2 > (0 : Int))))
                    (cond ((decide (((0 : Int) ≤ (Go.IntKind.wrap Go.IntKind.i64 (n2 - (1 : Int)))))) && (decide (((Go.IntKind.wrap Go.IntKind.i64 (n2 - (1 : Int))) < (((List.length l1) : Nat) : Int)))))
                      (elemK l1 (Int.toNat (Go.IntKind.wrap Go.IntKind.i64 (n2 - (1 : Int)))) fun x1 =>
                        (some (decide (((Go.Sa.Device.fPort x1) ≥ (Go.Sa.Device.fPort x))))))
                      none)
                    (some Bool.false)))))))) fun j1 =>
      (cond j1
      kR
      (ag (Go.IntKind.wrap Go.IntKind.i64 (n2 + (1 : Int)))))))
    none)
  kN)
def l_spec_BoardFault_w_0 (N : Nat) {R : Type} (l1 : List Go.Sa.Device) (n3 : Int) (n4 : Int) (b1 : Bool) (kR : Option R) (kN : Option R) : Nat → Int → Option R
  | 0, _ => none
  | f + 1, n2 => s_spec_BoardFault_w_0 N l1 n3 n4 b1 n2 (fun n2 => l_spec_BoardFault_w_0 N l1 n3 n4 b1 kR kN f n2)  kR kN
def c_spec_BoardFault_w_0 (N : Nat) {R : Type} (l1 : List Go.Sa.Device) (n3 : Int) (n4 : Int) (b1 : Bool) (n2 : Int) (kR : Option R) (kN : Option R) : Option R := l_spec_BoardFault_w_0 N l1 n3 n4 b1 kR kN N n2
theorem se_spec_BoardFault_w_0 (N : Nat) {R : Type} (l1 : List Go.Sa.Device) (n3 : Int) (n4 : Int) (b1 : Bool) (n2 : Int) (AG : List (Option AV) → Hp E → Option R) (KL : Ex → List (Option AV) → Hp E → Option R) :
    iterStep (E := E) (O_spec_BoardFault_w N) (fun {R} => LI (noIt) 1 85 sl_spec_BoardFault_w (R := R)) J_spec_BoardFault_w 1 85 0 [1, 3] [2] (body Go.Proofs.Try.f43 0) AG KL [(Option.some (Go.Eng.AV.sc (Go.Eng.SV.ptr 1 0 0))), (Option.some (Go.Eng.AV.sc (Go.Eng.SV.int Go.IntKind.i64 n2)))] [(Option.some (Go.Eng.HE.mk Bool.false (Go.Eng.HB.rows (Go.Sa.B.iDevice l1)))), (Option.some (Go.Eng.HE.mk Bool.false (Go.Eng.HB.exp [(Go.Eng.SV.int Go.IntKind.i64 n3), (Go.Eng.SV.int Go.IntKind.i64 n4), (Go.Eng.SV.slc 0 Option.none b1)])))] =
      s_spec_BoardFault_w_0 N l1 n3 n4 b1 n2 (fun n2 => AG [(Option.some (Go.Eng.AV.sc (Go.Eng.SV.ptr 1 0 0))), (Option.some (Go.Eng.AV.sc (Go.Eng.SV.int Go.IntKind.i64 n2)))] [(Option.some (Go.Eng.HE.mk Bool.false (Go.Eng.HB.rows (Go.Sa.B.iDevice l1)))), (Option.some (Go.Eng.HE.mk Bool.false (Go.Eng.HB.exp [(Go.Eng.SV.int Go.IntKind.i64 n3), (Go.Eng.SV.int Go.IntKind.i64 n4), (Go.Eng.SV.slc 0 Option.none b1)])))])  (KL Go.Eng.Ex.ret [(Option.some (Go.Eng.AV.sc (Go.Eng.SV.int Go.IntKind.i64 (1 : Int))))] [(Option.some (Go.Eng.HE.mk Bool.false (Go.Eng.HB.rows (Go.Sa.B.iDevice l1))))]) (KL Go.Eng.Ex.normal [Option.none] [(Option.some (Go.Eng.HE.mk Bool.false (Go.Eng.HB.rows (Go.Sa.B.iDevice l1))))]) := by kernel_rfl
theorem le_spec_BoardFault_w_0 (N : Nat) {R : Type} (l1 : List Go.Sa.Device) (n3 : Int) (n4 : Int) (b1 : Bool) (KL : Ex → List (Option AV) → Hp E → Option R) : ∀ (f : Nat), ∀ (n2 : Int), iterK (E := E) (O_spec_BoardFault_w N) (fun {R} => LI (noIt) 1 85 sl_spec_BoardFault_w (R := R)) J_spec_BoardFault_w 1 85 0 [1, 3] [2] (body Go.Proofs.Try.f43 0) f [(Option.some (Go.Eng.AV.sc (Go.Eng.SV.ptr 1 0 0))), (Option.some (Go.Eng.AV.sc (Go.Eng.SV.int Go.IntKind.i64 n2)))] [(Option.some (Go.Eng.HE.mk Bool.false (Go.Eng.HB.rows (Go.Sa.B.iDevice l1)))), (Option.some (Go.Eng.HE.mk Bool.false (Go.Eng.HB.exp [(Go.Eng.SV.int Go.IntKind.i64 n3), (Go.Eng.SV.int Go.IntKind.i64 n4), (Go.Eng.SV.slc 0 Option.none b1)])))] KL = l_spec_BoardFault_w_0 N l1 n3 n4 b1 (KL Go.Eng.Ex.ret [(Option.some (Go.Eng.AV.sc (Go.Eng.SV.int Go.IntKind.i64 (1 : Int))))] [(Option.some (Go.Eng.HE.mk Bool.false (Go.Eng.HB.rows (Go.Sa.B.iDevice l1))))]) (KL Go.Eng.Ex.normal [Option.none] [(Option.some (Go.Eng.HE.mk Bool.false (Go.Eng.HB.rows (Go.Sa.B.iDevice l1))))]) f n2 := by
  intro f
  induction f with
  | zero => intros; rfl
  | succ f ih =>
    intro n2
    rw [iterK_succ, se_spec_BoardFault_w_0]
    exact (congrArg (fun z0 => s_spec_BoardFault_w_0 N l1 n3 n4 b1 n2 z0 (KL Go.Eng.Ex.ret [(Option.some (Go.Eng.AV.sc (Go.Eng.SV.int Go.IntKind.i64 (1 : Int))))] [(Option.some (Go.Eng.HE.mk Bool.false (Go.Eng.HB.rows (Go.Sa.B.iDevice l1))))]) (KL Go.Eng.Ex.normal [Option.none] [(Option.some (Go.Eng.HE.mk Bool.false (Go.Eng.HB.rows (Go.Sa.B.iDevice l1))))])) (funext fun n2 => ih n2))
def i_spec_BoardFault_w_0 (N : Nat) {R : Type} (vs : List (Option AV)) (H : Hp E) (KL : Ex → List (Option AV) → Hp E → Option R) : Option R :=
  match vs, H with
  | [(Option.some (Go.Eng.AV.sc (Go.Eng.SV.ptr 1 0 0))), (Option.some (Go.Eng.AV.sc (Go.Eng.SV.int Go.IntKind.i64 n2)))], [(Option.some (Go.Eng.HE.mk Bool.false (Go.Eng.HB.rows (Go.Sa.B.iDevice l1)))), (Option.some (Go.Eng.HE.mk Bool.false (Go.Eng.HB.exp [(Go.Eng.SV.int Go.IntKind.i64 n3), (Go.Eng.SV.int Go.IntKind.i64 n4), (Go.Eng.SV.slc 0 Option.none b1)])))] => c_spec_BoardFault_w_0 N l1 n3 n4 b1 n2 (KL Go.Eng.Ex.ret [(Option.some (Go.Eng.AV.sc (Go.Eng.SV.int Go.IntKind.i64 (1 : Int))))] [(Option.some (Go.Eng.HE.mk Bool.false (Go.Eng.HB.rows (Go.Sa.B.iDevice l1))))]) (KL Go.Eng.Ex.normal [Option.none] [(Option.some (Go.Eng.HE.mk Bool.false (Go.Eng.HB.rows (Go.Sa.B.iDevice l1))))])
  | _, _ => none
noncomputable def IT_spec_BoardFault_w_0 (N : Nat) : Its E := addIt 0 (i_spec_BoardFault_w_0 N) (noIt)
theorem IT_spec_BoardFault_w_0_ok (N : Nat) : ItOk (IT_spec_BoardFault_w_0 N) 1 85 sl_spec_BoardFault_w (lsB Go.Proofs.Try.f43 [0]) :=
  addItB_ok (inner := []) ok (O_spec_BoardFault_w_ok N) (jn_ok _ _) (noIt_ok) rfl (by kernel_rfl) rfl fun vs H KL r h => by
    unfold i_spec_BoardFault_w_0 at h
    split at h
    · exact ⟨_, (le_spec_BoardFault_w_0 N _ _ _ _ KL N _).trans h⟩
    · cases h
def g_spec_BoardFault_w (N : Nat) {R : Type} (n : Int) (n1 : Int) (b : Bool) (l : List Go.Sa.Device) (k : Int → Option R) : Option R :=
  (oK (cond (decide ((n < (2 : Int))))
    (some Bool.true)
    (cond (decide ((n > (256 : Int))))
      (some Bool.true)
      (cond (decide ((n1 < (1 : Int))))
        (some Bool.true)
        (cond (decide ((n1 > (8 : Int))))
          (some Bool.true)
          (some (decide (((((List.length l) : Nat) : Int) > (16 : Int))))))))) fun j =>
  (cond j
  (k (1 : Int))
  (c_spec_BoardFault_w_0 N l n n1 b (0 : Int) (
    (k (1 : Int))) (
    (k (0 : Int))))))
theorem e_spec_BoardFault_w (N : Nat) {R : Type} (n : Int) (n1 : Int) (b : Bool) (l : List Go.Sa.Device) (K : AV → Hp E → Option R) :
    runFnI (E := E) (O_spec_BoardFault_w N) (IT_spec_BoardFault_w_0 N) sl_spec_BoardFault_w J_spec_BoardFault_w Go.Proofs.Try.f43 [(Go.Eng.AV.agg [(Go.Eng.SV.int Go.IntKind.i64 n), (Go.Eng.SV.int Go.IntKind.i64 n1), (Go.Eng.SV.slc 0 Option.none b)])] [(Option.some (Go.Eng.HE.mk Bool.false (Go.Eng.HB.rows (Go.Sa.B.iDevice l))))] K =
      g_spec_BoardFault_w N n n1 b l (fun n5 => K (Go.Eng.AV.sc (Go.Eng.SV.int Go.IntKind.i64 n5)) [(Option.some (Go.Eng.HE.mk Bool.false (Go.Eng.HB.rows (Go.Sa.B.iDevice l))))]) := by kernel_rfl
def o_spec_BoardFault_w (N : Nat) {R : Type} (args : List AV) (H : Hp E) (K : AV → Hp E → Option R) : Option R :=
  match args, H with
  | [(Go.Eng.AV.agg [(Go.Eng.SV.int Go.IntKind.i64 n), (Go.Eng.SV.int Go.IntKind.i64 n1), (Go.Eng.SV.slc 0 Option.none b)])], [(Option.some (Go.Eng.HE.mk Bool.false (Go.Eng.HB.rows (Go.Sa.B.iDevice l))))] => g_spec_BoardFault_w N n n1 b l (fun n5 => K (Go.Eng.AV.sc (Go.Eng.SV.int Go.IntKind.i64 n5)) [(Option.some (Go.Eng.HE.mk Bool.false (Go.Eng.HB.rows (Go.Sa.B.iDevice l))))])
  | _, _ => none
theorem o_spec_BoardFault_w_ok (N : Nat) : FnOk E 43 (o_spec_BoardFault_w N) := by
  intro R args H K r h
  unfold o_spec_BoardFault_w at h
  dsimp only at h
  split at h
  · exact fnB_ok (ids := [0]) (top := [0]) ok (O_spec_BoardFault_w_ok N) (jn_ok _ _) Go.Proofs.Try.func43 (by kernel_rfl) (IT := IT_spec_BoardFault_w_0 N) (sl := sl_spec_BoardFault_w) (J := J_spec_BoardFault_w) (K := K) (H := [(Option.some (Go.Eng.HE.mk Bool.false (Go.Eng.HB.rows (Go.Sa.B.iDevice _))))]) (IT_spec_BoardFault_w_0_ok N) (by kernel_rfl) rfl ((e_spec_BoardFault_w N _ _ _ _ K).trans h)
  · cases h
/-! ### loop.example/g00038/spec.l01Mod -/
abbrev sl_spec_l01Mod : SlotT := []
abbrev J_spec_l01Mod : JT := jn [] [(10, [(5, .i .i64)])]
noncomputable def O_spec_l01Mod (N : Nat) : Orc E := noFn
theorem O_spec_l01Mod_ok (N : Nat) : OrcOk (O_spec_l01Mod N) := noFn_ok
def g_spec_l01Mod (N : Nat) {R : Type} (n : Int) (n1 : Int) (k : Int → Option R) : Option R :=
  (cond (n1 == (0 : Int))
  none
  (oK (cond (decide (((Int.tmod n n1) < (0 : Int))))
      (some (Go.IntKind.wrap Go.IntKind.i64 ((Int.tmod n n1) + n1)))
      (some (Int.tmod n n1))) fun j =>
    (k j)))
theorem e_spec_l01Mod (N : Nat) {R : Type} (n : Int) (n1 : Int) (K : AV → Hp E → Option R) :
    runFnI (E := E) (O_spec_l01Mod N) (noIt) sl_spec_l01Mod J_spec_l01Mod Go.Proofs.Try.f158 [(Go.Eng.AV.sc (Go.Eng.SV.int Go.IntKind.i64 n)), (Go.Eng.AV.sc (Go.Eng.SV.int Go.IntKind.i64 n1))] [] K =
      g_spec_l01Mod N n n1 (fun n2 => K (Go.Eng.AV.sc (Go.Eng.SV.int Go.IntKind.i64 n2)) []) := by kernel_rfl
def o_spec_l01Mod (N : Nat) {R : Type} (args : List AV) (H : Hp E) (K : AV → Hp E → Option R) : Option R :=
  match args, H with
  | [(Go.Eng.AV.sc (Go.Eng.SV.int Go.IntKind.i64 n)), (Go.Eng.AV.sc (Go.Eng.SV.int Go.IntKind.i64 n1))], [] => g_spec_l01Mod N n n1 (fun n2 => K (Go.Eng.AV.sc (Go.Eng.SV.int Go.IntKind.i64 n2)) [])
  | _, _ => none
theorem o_spec_l01Mod_ok (N : Nat) : FnOk E 158 (o_spec_l01Mod N) := by
  intro R args H K r h
  unfold o_spec_l01Mod at h
  dsimp only at h
  split at h
  · exact fnB_ok (ids := []) (top := []) ok (O_spec_l01Mod_ok N) (jn_ok _ _) Go.Proofs.Try.func158 (by kernel_rfl) (IT := noIt) (sl := sl_spec_l01Mod) (J := J_spec_l01Mod) (K := K) (H := []) (noIt_ok) (by kernel_rfl) rfl ((e_spec_l01Mod N _ _ K).trans h)
  · cases h
/-! ### loop.example/g00038/spec.Word -/
abbrev sl_spec_Word : SlotT := []
abbrev J_spec_Word : JT := jn [] []
noncomputable def O_spec_Word (N : Nat) : Orc E := addFn 158 (o_spec_l01Mod N) (noFn)
theorem O_spec_Word_ok (N : Nat) : OrcOk (O_spec_Word N) := addFn_ok (o_spec_l01Mod_ok N) (noFn_ok)
def g_spec_Word (N : Nat) {R : Type} (n : Int) (k : Int → Option R) : Option R :=
  (g_spec_l01Mod N n (4294967296 : Int) fun n1 =>
  (k n1))
theorem e_spec_Word (N : Nat) {R : Type} (n : Int) (K : AV → Hp E → Option R) :
    runFnI (E := E) (O_spec_Word N) (noIt) sl_spec_Word J_spec_Word Go.Proofs.Try.f93 [(Go.Eng.AV.sc (Go.Eng.SV.int Go.IntKind.i64 n))] [] K =
      g_spec_Word N n (fun n2 => K (Go.Eng.AV.sc (Go.Eng.SV.int Go.IntKind.i64 n2)) []) := by kernel_rfl
def o_spec_Word (N : Nat) {R : Type} (args : List AV) (H : Hp E) (K : AV → Hp E → Option R) : Option R :=
  match args, H with
  | [(Go.Eng.AV.sc (Go.Eng.SV.int Go.IntKind.i64 n))], [] => g_spec_Word N n (fun n2 => K (Go.Eng.AV.sc (Go.Eng.SV.int Go.IntKind.i64 n2)) [])
  | _, _ => none
theorem o_spec_Word_ok (N : Nat) : FnOk E 93 (o_spec_Word N) := by
  intro R args H K r h
  unfold o_spec_Word at h
  dsimp only at h
  split at h
  · exact fnB_ok (ids := []) (top := []) ok (O_spec_Word_ok N) (jn_ok _ _) Go.Proofs.Try.func93 (by kernel_rfl) (IT := noIt) (sl := sl_spec_Word) (J := J_spec_Word) (K := K) (H := []) (noIt_ok) (by kernel_rfl) rfl ((e_spec_Word N _ K).trans h)
  · cases h
/-! ### loop.example/g00038/spec.PutWord -/
abbrev sl_spec_PutWord : SlotT := []
abbrev J_spec_PutWord : JT := jn [] []
noncomputable def O_spec_PutWord (N : Nat) : Orc E := addFn 93 (o_spec_Word N) (noFn)
theorem O_spec_PutWord_ok (N : Nat) : OrcOk (O_spec_PutWord N) := addFn_ok (o_spec_Word_ok N) (noFn_ok)
def g_spec_PutWord (N : Nat) {R : Type} (n : Int) (k : ByteArray → Option R) : Option R :=
  (g_spec_Word N n fun n1 =>
  (k (Go.Eng.toBytes (Go.Eng.seg [(Go.IntKind.wrap Go.IntKind.u8 n1), (Go.IntKind.wrap Go.IntKind.u8 (Int.fdiv n1 (256 : Int))), (Go.IntKind.wrap Go.IntKind.u8 (Int.fdiv n1 (65536 : Int))), (Go.IntKind.wrap Go.IntKind.u8 (Int.fdiv n1 (16777216 : Int)))] 0 (List.length [(Go.IntKind.wrap Go.IntKind.u8 n1), (Go.IntKind.wrap Go.IntKind.u8 (Int.fdiv n1 (256 : Int))), (Go.IntKind.wrap Go.IntKind.u8 (Int.fdiv n1 (65536 : Int))), (Go.IntKind.wrap Go.IntKind.u8 (Int.fdiv n1 (16777216 : Int)))])))))
theorem e_spec_PutWord (N : Nat) {R : Type} (n : Int) (K : AV → Hp E → Option R) :
    runFnI (E := E) (O_spec_PutWord N) (noIt) sl_spec_PutWord J_spec_PutWord Go.Proofs.Try.f109 [(Go.Eng.AV.sc (Go.Eng.SV.int Go.IntKind.i64 n))] [] K =
      g_spec_PutWord N n (fun s => K (Go.Eng.AV.sc (Go.Eng.SV.str s)) []) := by kernel_rfl
def o_spec_PutWord (N : Nat) {R : Type} (args : List AV) (H : Hp E) (K : AV → Hp E → Option R) : Option R :=
  match args, H with
  | [(Go.Eng.AV.sc (Go.Eng.SV.int Go.IntKind.i64 n))], [] => g_spec_PutWord N n (fun s => K (Go.Eng.AV.sc (Go.Eng.SV.str s)) [])
  | _, _ => none
theorem o_spec_PutWord_ok (N : Nat) : FnOk E 109 (o_spec_PutWord N) := by
  intro R args H K r h
  unfold o_spec_PutWord at h
  dsimp only at h
  split at h
  · exact fnB_ok (ids := []) (top := []) ok (O_spec_PutWord_ok N) (jn_ok _ _) Go.Proofs.Try.func109 (by kernel_rfl) (IT := noIt) (sl := sl_spec_PutWord) (J := J_spec_PutWord) (K := K) (H := []) (noIt_ok) (by kernel_rfl) rfl ((e_spec_PutWord N _ K).trans h)
  · cases h
/-! ### loop.example/g00038/spec.TablesOf -/
abbrev sl_spec_TablesOf_w : SlotT := [(0, ([1, 3, 4], [1, 3]))]
abbrev J_spec_TablesOf_w : JT := jn [] []
noncomputable def O_spec_TablesOf_w (N : Nat) : Orc E := addFn 109 (o_spec_PutWord N) (addFn 43 (o_spec_BoardFault_w N) (noFn))
theorem O_spec_TablesOf_w_ok (N : Nat) : OrcOk (O_spec_TablesOf_w N) := addFn_ok (o_spec_PutWord_ok N) (addFn_ok (o_spec_BoardFault_w_ok N) (noFn_ok))
def s_spec_TablesOf_w_0 (N : Nat) {R : Type} (l1 : List Go.Sa.Device) (n4 : Int) (n5 : Int) (b1 : Bool) (s : ByteArray) (n3 : Int) (ag : ByteArray → Int → Option R)  (kN : ByteArray → Option R) : Option R :=
  (cond (decide ((n3 < (((List.length l1) : Nat) : Int))))
  (cond ((decide (((0 : Int) ≤ n3))) && (decide ((n3 < (((List.length l1) : Nat) : Int)))))
    (elemK l1 (Int.toNat n3) fun x =>
      (g_spec_PutWord N (Go.IntKind.wrap Go.IntKind.i64 ((Go.IntKind.wrap Go.IntKind.i64 ((Go.IntKind.wrap Go.IntKind.i64 ((Go.Sa.Device.fKind x) * (16777216 : Int))) + (Go.IntKind.wrap Go.IntKind.i64 ((Go.Sa.Device.fLine x) * (65536 : Int))))) + (Go.Sa.Device.fPort x))) fun s1 =>
      (cond (Nat.ble ((ByteArray.size s) + (ByteArray.size s1)) 9223372036854775807)
      (ag (s ++ s1) (Go.IntKind.wrap Go.IntKind.i64 (n3 + (1 : Int))))
      none)))
    none)
  (kN s))
def l_spec_TablesOf_w_0 (N : Nat) {R : Type} (l1 : List Go.Sa.Device) (n4 : Int) (n5 : Int) (b1 : Bool) (kN : ByteArray → Option R) : Nat → ByteArray → Int → Option R
  | 0, _, _ => none
  | f + 1, s, n3 => s_spec_TablesOf_w_0 N l1 n4 n5 b1 s n3 (fun s n3 => l_spec_TablesOf_w_0 N l1 n4 n5 b1 kN f s n3)  kN
def c_spec_TablesOf_w_0 (N : Nat) {R : Type} (l1 : List Go.Sa.Device) (n4 : Int) (n5 : Int) (b1 : Bool) (s : ByteArray) (n3 : Int) (kN : ByteArray → Option R) : Option R := l_spec_TablesOf_w_0 N l1 n4 n5 b1 kN N s n3
theorem se_spec_TablesOf_w_0 (N : Nat) {R : Type} (l1 : List Go.Sa.Device) (n4 : Int) (n5 : Int) (b1 : Bool) (s : ByteArray) (n3 : Int) (AG : List (Option AV) → Hp E → Option R) (KL : Ex → List (Option AV) → Hp E → Option R) :
    iterStep (E := E) (O_spec_TablesOf_w N) (fun {R} => LI (noIt) 1 46 sl_spec_TablesOf_w (R := R)) J_spec_TablesOf_w 1 46 0 [1, 3, 4] [1, 3] (body Go.Proofs.Try.f80 0) AG KL [(Option.some (Go.Eng.AV.sc (Go.Eng.SV.ptr 1 0 0))), (Option.some (Go.Eng.AV.sc (Go.Eng.SV.str s))), (Option.some (Go.Eng.AV.sc (Go.Eng.SV.int Go.IntKind.i64 n3)))] [(Option.some (Go.Eng.HE.mk Bool.false (Go.Eng.HB.rows (Go.Sa.B.iDevice l1)))), (Option.some (Go.Eng.HE.mk Bool.false (Go.Eng.HB.exp [(Go.Eng.SV.int Go.IntKind.i64 n4), (Go.Eng.SV.int Go.IntKind.i64 n5), (Go.Eng.SV.slc 0 Option.none b1)])))] =
      s_spec_TablesOf_w_0 N l1 n4 n5 b1 s n3 (fun s n3 => AG [(Option.some (Go.Eng.AV.sc (Go.Eng.SV.ptr 1 0 0))), (Option.some (Go.Eng.AV.sc (Go.Eng.SV.str s))), (Option.some (Go.Eng.AV.sc (Go.Eng.SV.int Go.IntKind.i64 n3)))] [(Option.some (Go.Eng.HE.mk Bool.false (Go.Eng.HB.rows (Go.Sa.B.iDevice l1)))), (Option.some (Go.Eng.HE.mk Bool.false (Go.Eng.HB.exp [(Go.Eng.SV.int Go.IntKind.i64 n4), (Go.Eng.SV.int Go.IntKind.i64 n5), (Go.Eng.SV.slc 0 Option.none b1)])))])  (fun s5 => KL Go.Eng.Ex.normal [(Option.some (Go.Eng.AV.sc (Go.Eng.SV.ptr 1 0 0))), (Option.some (Go.Eng.AV.sc (Go.Eng.SV.str s5)))] [(Option.some (Go.Eng.HE.mk Bool.false (Go.Eng.HB.rows (Go.Sa.B.iDevice l1)))), (Option.some (Go.Eng.HE.mk Bool.false (Go.Eng.HB.exp [(Go.Eng.SV.int Go.IntKind.i64 n4), (Go.Eng.SV.int Go.IntKind.i64 n5), (Go.Eng.SV.slc 0 Option.none b1)])))]) := by kernel_rfl
theorem le_spec_TablesOf_w_0 (N : Nat) {R : Type} (l1 : List Go.Sa.Device) (n4 : Int) (n5 : Int) (b1 : Bool) (KL : Ex → List (Option AV) → Hp E → Option R) : ∀ (f : Nat), ∀ (s : ByteArray) (n3 : Int), iterK (E := E) (O_spec_TablesOf_w N) (fun {R} => LI (noIt) 1 46 sl_spec_TablesOf_w (R := R)) J_spec_TablesOf_w 1 46 0 [1, 3, 4] [1, 3] (body Go.Proofs.Try.f80 0) f [(Option.some (Go.Eng.AV.sc (Go.Eng.SV.ptr 1 0 0))), (Option.some (Go.Eng.AV.sc (Go.Eng.SV.str s))), (Option.some (Go.Eng.AV.sc (Go.Eng.SV.int Go.IntKind.i64 n3)))] [(Option.some (Go.Eng.HE.mk Bool.false (Go.Eng.HB.rows (Go.Sa.B.iDevice l1)))), (Option.some (Go.Eng.HE.mk Bool.false (Go.Eng.HB.exp [(Go.Eng.SV.int Go.IntKind.i64 n4), (Go.Eng.SV.int Go.IntKind.i64 n5), (Go.Eng.SV.slc 0 Option.none b1)])))] KL = l_spec_TablesOf_w_0 N l1 n4 n5 b1 (fun s5 => KL Go.Eng.Ex.normal [(Option.some (Go.Eng.AV.sc (Go.Eng.SV.ptr 1 0 0))), (Option.some (Go.Eng.AV.sc (Go.Eng.SV.str s5)))] [(Option.some (Go.Eng.HE.mk Bool.false (Go.Eng.HB.rows (Go.Sa.B.iDevice l1)))), (Option.some (Go.Eng.HE.mk Bool.false (Go.Eng.HB.exp [(Go.Eng.SV.int Go.IntKind.i64 n4), (Go.Eng.SV.int Go.IntKind.i64 n5), (Go.Eng.SV.slc 0 Option.none b1)])))]) f s n3 := by
  intro f
  induction f with
  | zero => intros; rfl
  | succ f ih =>
    intro s n3
    rw [iterK_succ, se_spec_TablesOf_w_0]
    exact (congrArg (fun z0 => s_spec_TablesOf_w_0 N l1 n4 n5 b1 s n3 z0 (fun s5 => KL Go.Eng.Ex.normal [(Option.some (Go.Eng.AV.sc (Go.Eng.SV.ptr 1 0 0))), (Option.some (Go.Eng.AV.sc (Go.Eng.SV.str s5)))] [(Option.some (Go.Eng.HE.mk Bool.false (Go.Eng.HB.rows (Go.Sa.B.iDevice l1)))), (Option.some (Go.Eng.HE.mk Bool.false (Go.Eng.HB.exp [(Go.Eng.SV.int Go.IntKind.i64 n4), (Go.Eng.SV.int Go.IntKind.i64 n5), (Go.Eng.SV.slc 0 Option.none b1)])))])) (funext fun s => funext fun n3 => ih s n3))
def i_spec_TablesOf_w_0 (N : Nat) {R : Type} (vs : List (Option AV)) (H : Hp E) (KL : Ex → List (Option AV) → Hp E → Option R) : Option R :=
  match vs, H with
  | [(Option.some (Go.Eng.AV.sc (Go.Eng.SV.ptr 1 0 0))), (Option.some (Go.Eng.AV.sc (Go.Eng.SV.str s))), (Option.some (Go.Eng.AV.sc (Go.Eng.SV.int Go.IntKind.i64 n3)))], [(Option.some (Go.Eng.HE.mk Bool.false (Go.Eng.HB.rows (Go.Sa.B.iDevice l1)))), (Option.some (Go.Eng.HE.mk Bool.false (Go.Eng.HB.exp [(Go.Eng.SV.int Go.IntKind.i64 n4), (Go.Eng.SV.int Go.IntKind.i64 n5), (Go.Eng.SV.slc 0 Option.none b1)])))] => c_spec_TablesOf_w_0 N l1 n4 n5 b1 s n3 (fun s6 => KL Go.Eng.Ex.normal [(Option.some (Go.Eng.AV.sc (Go.Eng.SV.ptr 1 0 0))), (Option.some (Go.Eng.AV.sc (Go.Eng.SV.str s6)))] [(Option.some (Go.Eng.HE.mk Bool.false (Go.Eng.HB.rows (Go.Sa.B.iDevice l1)))), (Option.some (Go.Eng.HE.mk Bool.false (Go.Eng.HB.exp [(Go.Eng.SV.int Go.IntKind.i64 n4), (Go.Eng.SV.int Go.IntKind.i64 n5), (Go.Eng.SV.slc 0 Option.none b1)])))])
  | _, _ => none
noncomputable def IT_spec_TablesOf_w_0 (N : Nat) : Its E := addIt 0 (i_spec_TablesOf_w_0 N) (noIt)
theorem IT_spec_TablesOf_w_0_ok (N : Nat) : ItOk (IT_spec_TablesOf_w_0 N) 1 46 sl_spec_TablesOf_w (lsB Go.Proofs.Try.f80 [0]) :=
  addItB_ok (inner := []) ok (O_spec_TablesOf_w_ok N) (jn_ok _ _) (noIt_ok) rfl (by kernel_rfl) rfl fun vs H KL r h => by
    unfold i_spec_TablesOf_w_0 at h
    split at h
    · exact ⟨_, (le_spec_TablesOf_w_0 N _ _ _ _ KL N _ _).trans h⟩
    · cases h
def g_spec_TablesOf_w (N : Nat) {R : Type} (n : Int) (n1 : Int) (b : Bool) (l : List Go.Sa.Device) (k : (List Go.Sa.FirmTable) → Option R) : Option R :=
  (g_spec_BoardFault_w N n n1 b l fun n2 =>
  (cond (n2 != (0 : Int))
  (k [])
  (c_spec_TablesOf_w_0 N l n n1 b (ByteArray.mk (List.toArray [])) (0 : Int) fun s2 =>
    (g_spec_PutWord N n fun s3 =>
    (g_spec_PutWord N n1 fun s4 =>
    (k [(Go.Sa.FirmTable.mk (ByteArray.mk (List.toArray [(77 : UInt8), (69 : UInt8), (77 : UInt8), (79 : UInt8)])) (1 : Int) s3), (Go.Sa.FirmTable.mk (ByteArray.mk (List.toArray [(67 : UInt8), (80 : UInt8), (85 : UInt8), (83 : UInt8)])) (1 : Int) s4), (Go.Sa.FirmTable.mk (ByteArray.mk (List.toArray [(68 : UInt8), (69 : UInt8), (86 : UInt8), (83 : UInt8)])) (1 : Int) s2)]))))))
theorem e_spec_TablesOf_w (N : Nat) {R : Type} (n : Int) (n1 : Int) (b : Bool) (l : List Go.Sa.Device) (K : AV → Hp E → Option R) :
    runFnI (E := E) (O_spec_TablesOf_w N) (IT_spec_TablesOf_w_0 N) sl_spec_TablesOf_w J_spec_TablesOf_w Go.Proofs.Try.f80 [(Go.Eng.AV.agg [(Go.Eng.SV.int Go.IntKind.i64 n), (Go.Eng.SV.int Go.IntKind.i64 n1), (Go.Eng.SV.slc 0 Option.none b)])] [(Option.some (Go.Eng.HE.mk Bool.false (Go.Eng.HB.rows (Go.Sa.B.iDevice l))))] K =
      g_spec_TablesOf_w N n n1 b l (fun l2 => K (Go.Eng.AV.sc (Go.Eng.SV.slc 1 Option.none Bool.false)) [(Option.some (Go.Eng.HE.mk Bool.false (Go.Eng.HB.rows (Go.Sa.B.iDevice l)))), (Option.some (Go.Eng.HE.mk Bool.false (Go.Eng.HB.rows (Go.Sa.B.iFirmTable l2))))]) := by kernel_rfl
def o_spec_TablesOf_w (N : Nat) {R : Type} (args : List AV) (H : Hp E) (K : AV → Hp E → Option R) : Option R :=
  match args, H with
  | [(Go.Eng.AV.agg [(Go.Eng.SV.int Go.IntKind.i64 n), (Go.Eng.SV.int Go.IntKind.i64 n1), (Go.Eng.SV.slc 0 Option.none b)])], [(Option.some (Go.Eng.HE.mk Bool.false (Go.Eng.HB.rows (Go.Sa.B.iDevice l))))] => g_spec_TablesOf_w N n n1 b l (fun l2 => K (Go.Eng.AV.sc (Go.Eng.SV.slc 1 Option.none Bool.false)) [(Option.some (Go.Eng.HE.mk Bool.false (Go.Eng.HB.rows (Go.Sa.B.iDevice l)))), (Option.some (Go.Eng.HE.mk Bool.false (Go.Eng.HB.rows (Go.Sa.B.iFirmTable l2))))])
  | _, _ => none
theorem o_spec_TablesOf_w_ok (N : Nat) : FnOk E 80 (o_spec_TablesOf_w N) := by
  intro R args H K r h
  unfold o_spec_TablesOf_w at h
  dsimp only at h
  split at h
  · exact fnB_ok (ids := [0]) (top := [0]) ok (O_spec_TablesOf_w_ok N) (jn_ok _ _) Go.Proofs.Try.func80 (by kernel_rfl) (IT := IT_spec_TablesOf_w_0 N) (sl := sl_spec_TablesOf_w) (J := J_spec_TablesOf_w) (K := K) (H := [(Option.some (Go.Eng.HE.mk Bool.false (Go.Eng.HB.rows (Go.Sa.B.iDevice _))))]) (IT_spec_TablesOf_w_0_ok N) (by kernel_rfl) rfl ((e_spec_TablesOf_w N _ _ _ _ K).trans h)
  · cases h
/-! ### loop.example/g00038/spec.BoardOf -/
abbrev sl_spec_BoardOf_w : SlotT := [(0, ([0, 2, 3, 4], [0, 2, 3]))]
abbrev J_spec_BoardOf_w : JT := jn [(1, [(33, .b)]), (10, [(106, .b)])] []
noncomputable def O_spec_BoardOf_w (N : Nat) : Orc E := addFn 80 (o_spec_TablesOf_w N) (addFn 79 (o_spec_l01Word N) (noFn))
theorem O_spec_BoardOf_w_ok (N : Nat) : OrcOk (O_spec_BoardOf_w N) := addFn_ok (o_spec_TablesOf_w_ok N) (addFn_ok (o_spec_l01Word_ok N) (noFn_ok))
def s_spec_BoardOf_w_0 (N : Nat) {R : Type} (b1 : Bool) (l1 : List Go.Sa.FirmTable) (b2 : Bool) (n3 : Int) (n4 : Int) (b3 : Bool) (l2 : List Go.Sa.Device) (n5 : Int) (n6 : Int) (n2 : Int) (b4 : Bool) (l3 : List Go.Sa.Device) (ag : Int → Bool → (List Go.Sa.Device) → Option R)  (kN : Bool → (List Go.Sa.Device) → Option R) : Option R :=
  (cond (decide (((2 : Int) < (((List.length l1) : Nat) : Int))))
  (elemK l1 2 fun x5 =>
    (cond (decide (((Go.IntKind.wrap Go.IntKind.i64 (n2 + (4 : Int))) ≤ (((ByteArray.size (Go.Sa.FirmTable.fBody x5)) : Nat) : Int))))
    (cond (decide (((2 : Int) < (((List.length l1) : Nat) : Int))))
      (elemK l1 2 fun x6 =>
        (g_spec_l01Word N (Go.Sa.FirmTable.fBody x6) n2 fun n7 =>
        (cond (Go.Eng.roomOk ((List.length l3) + (List.length [(Go.Sa.Device.mk (Int.fdiv n7 (16777216 : Int)) (Int.tmod n7 (65536 : Int)) (Int.tmod (Int.fdiv n7 (65536 : Int)) (256 : Int)))])) 24)
        (ag (Go.IntKind.wrap Go.IntKind.i64 (n2 + (4 : Int))) (cond (Nat.beq (List.length [(Go.Sa.Device.mk (Int.fdiv n7 (16777216 : Int)) (Int.tmod n7 (65536 : Int)) (Int.tmod (Int.fdiv n7 (65536 : Int)) (256 : Int)))]) 0) b4 Bool.false) (l3 ++ [(Go.Sa.Device.mk (Int.fdiv n7 (16777216 : Int)) (Int.tmod n7 (65536 : Int)) (Int.tmod (Int.fdiv n7 (65536 : Int)) (256 : Int)))]))
        none)))
      none)
    (kN b4 l3)))
  none)
def l_spec_BoardOf_w_0 (N : Nat) {R : Type} (b1 : Bool) (l1 : List Go.Sa.FirmTable) (b2 : Bool) (n3 : Int) (n4 : Int) (b3 : Bool) (l2 : List Go.Sa.Device) (n5 : Int) (n6 : Int) (kN : Bool → (List Go.Sa.Device) → Option R) : Nat → Int → Bool → (List Go.Sa.Device) → Option R
  | 0, _, _, _ => none
  | f + 1, n2, b4, l3 => s_spec_BoardOf_w_0 N b1 l1 b2 n3 n4 b3 l2 n5 n6 n2 b4 l3 (fun n2 b4 l3 => l_spec_BoardOf_w_0 N b1 l1 b2 n3 n4 b3 l2 n5 n6 kN f n2 b4 l3)  kN
def c_spec_BoardOf_w_0 (N : Nat) {R : Type} (b1 : Bool) (l1 : List Go.Sa.FirmTable) (b2 : Bool) (n3 : Int) (n4 : Int) (b3 : Bool) (l2 : List Go.Sa.Device) (n5 : Int) (n6 : Int) (n2 : Int) (b4 : Bool) (l3 : List Go.Sa.Device) (kN : Bool → (List Go.Sa.Device) → Option R) : Option R := l_spec_BoardOf_w_0 N b1 l1 b2 n3 n4 b3 l2 n5 n6 kN N n2 b4 l3
theorem se_spec_BoardOf_w_0 (N : Nat) {R : Type} (b1 : Bool) (l1 : List Go.Sa.FirmTable) (b2 : Bool) (n3 : Int) (n4 : Int) (b3 : Bool) (l2 : List Go.Sa.Device) (n5 : Int) (n6 : Int) (n2 : Int) (b4 : Bool) (l3 : List Go.Sa.Device) (AG : List (Option AV) → Hp E → Option R) (KL : Ex → List (Option AV) → Hp E → Option R) :
    iterStep (E := E) (O_spec_BoardOf_w N) (fun {R} => LI (noIt) 1 110 sl_spec_BoardOf_w (R := R)) J_spec_BoardOf_w 1 110 0 [0, 2, 3, 4] [0, 2, 3] (body Go.Proofs.Try.f26 0) AG KL [(Option.some (Go.Eng.AV.sc (Go.Eng.SV.slc 0 Option.none b1))), (Option.some (Go.Eng.AV.sc (Go.Eng.SV.ptr 1 0 0))), (Option.some (Go.Eng.AV.sc (Go.Eng.SV.ptr 3 0 0))), (Option.some (Go.Eng.AV.sc (Go.Eng.SV.int Go.IntKind.i64 n2)))] [(Option.some (Go.Eng.HE.mk Bool.false (Go.Eng.HB.rows (Go.Sa.B.iFirmTable l1)))), (Option.some (Go.Eng.HE.mk Bool.false (Go.Eng.HB.exp [(Go.Eng.SV.bool b2), (Go.Eng.SV.int Go.IntKind.i64 n3), (Go.Eng.SV.int Go.IntKind.i64 n4), (Go.Eng.SV.slc 2 Option.none b3)]))), (Option.some (Go.Eng.HE.mk Bool.false (Go.Eng.HB.rows (Go.Sa.B.iDevice l2)))), (Option.some (Go.Eng.HE.mk Bool.false (Go.Eng.HB.exp [(Go.Eng.SV.int Go.IntKind.i64 n5), (Go.Eng.SV.int Go.IntKind.i64 n6), (Go.Eng.SV.slc 4 Option.none b4)]))), (Option.some (Go.Eng.HE.mk Bool.false (Go.Eng.HB.rows (Go.Sa.B.iDevice l3))))] =
      s_spec_BoardOf_w_0 N b1 l1 b2 n3 n4 b3 l2 n5 n6 n2 b4 l3 (fun n2 b4 l3 => AG [(Option.some (Go.Eng.AV.sc (Go.Eng.SV.slc 0 Option.none b1))), (Option.some (Go.Eng.AV.sc (Go.Eng.SV.ptr 1 0 0))), (Option.some (Go.Eng.AV.sc (Go.Eng.SV.ptr 3 0 0))), (Option.some (Go.Eng.AV.sc (Go.Eng.SV.int Go.IntKind.i64 n2)))] [(Option.some (Go.Eng.HE.mk Bool.false (Go.Eng.HB.rows (Go.Sa.B.iFirmTable l1)))), (Option.some (Go.Eng.HE.mk Bool.false (Go.Eng.HB.exp [(Go.Eng.SV.bool b2), (Go.Eng.SV.int Go.IntKind.i64 n3), (Go.Eng.SV.int Go.IntKind.i64 n4), (Go.Eng.SV.slc 2 Option.none b3)]))), (Option.some (Go.Eng.HE.mk Bool.false (Go.Eng.HB.rows (Go.Sa.B.iDevice l2)))), (Option.some (Go.Eng.HE.mk Bool.false (Go.Eng.HB.exp [(Go.Eng.SV.int Go.IntKind.i64 n5), (Go.Eng.SV.int Go.IntKind.i64 n6), (Go.Eng.SV.slc 4 Option.none b4)]))), (Option.some (Go.Eng.HE.mk Bool.false (Go.Eng.HB.rows (Go.Sa.B.iDevice l3))))])  (fun b8 l7 => KL Go.Eng.Ex.normal [(Option.some (Go.Eng.AV.sc (Go.Eng.SV.slc 0 Option.none b1))), (Option.some (Go.Eng.AV.sc (Go.Eng.SV.ptr 1 0 0))), (Option.some (Go.Eng.AV.sc (Go.Eng.SV.ptr 3 0 0)))] [(Option.some (Go.Eng.HE.mk Bool.false (Go.Eng.HB.rows (Go.Sa.B.iFirmTable l1)))), (Option.some (Go.Eng.HE.mk Bool.false (Go.Eng.HB.exp [(Go.Eng.SV.bool b2), (Go.Eng.SV.int Go.IntKind.i64 n3), (Go.Eng.SV.int Go.IntKind.i64 n4), (Go.Eng.SV.slc 2 Option.none b3)]))), (Option.some (Go.Eng.HE.mk Bool.false (Go.Eng.HB.rows (Go.Sa.B.iDevice l2)))), (Option.some (Go.Eng.HE.mk Bool.false (Go.Eng.HB.exp [(Go.Eng.SV.int Go.IntKind.i64 n5), (Go.Eng.SV.int Go.IntKind.i64 n6), (Go.Eng.SV.slc 4 Option.none b8)]))), (Option.some (Go.Eng.HE.mk Bool.false (Go.Eng.HB.rows (Go.Sa.B.iDevice l7))))]) := by kernel_rfl
theorem le_spec_BoardOf_w_0 (N : Nat) {R : Type} (b1 : Bool) (l1 : List Go.Sa.FirmTable) (b2 : Bool) (n3 : Int) (n4 : Int) (b3 : Bool) (l2 : List Go.Sa.Device) (n5 : Int) (n6 : Int) (KL : Ex → List (Option AV) → Hp E → Option R) : ∀ (f : Nat), ∀ (n2 : Int) (b4 : Bool) (l3 : List Go.Sa.Device), iterK (E := E) (O_spec_BoardOf_w N) (fun {R} => LI (noIt) 1 110 sl_spec_BoardOf_w (R := R)) J_spec_BoardOf_w 1 110 0 [0, 2, 3, 4] [0, 2, 3] (body Go.Proofs.Try.f26 0) f [(Option.some (Go.Eng.AV.sc (Go.Eng.SV.slc 0 Option.none b1))), (Option.some (Go.Eng.AV.sc (Go.Eng.SV.ptr 1 0 0))), (Option.some (Go.Eng.AV.sc (Go.Eng.SV.ptr 3 0 0))), (Option.some (Go.Eng.AV.sc (Go.Eng.SV.int Go.IntKind.i64 n2)))] [(Option.some (Go.Eng.HE.mk Bool.false (Go.Eng.HB.rows (Go.Sa.B.iFirmTable l1)))), (Option.some (Go.Eng.HE.mk Bool.false (Go.Eng.HB.exp [(Go.Eng.SV.bool b2), (Go.Eng.SV.int Go.IntKind.i64 n3), (Go.Eng.SV.int Go.IntKind.i64 n4), (Go.Eng.SV.slc 2 Option.none b3)]))), (Option.some (Go.Eng.HE.mk Bool.false (Go.Eng.HB.rows (Go.Sa.B.iDevice l2)))), (Option.some (Go.Eng.HE.mk Bool.false (Go.Eng.HB.exp [(Go.Eng.SV.int Go.IntKind.i64 n5), (Go.Eng.SV.int Go.IntKind.i64 n6), (Go.Eng.SV.slc 4 Option.none b4)]))), (Option.some (Go.Eng.HE.mk Bool.false (Go.Eng.HB.rows (Go.Sa.B.iDevice l3))))] KL = l_spec_BoardOf_w_0 N b1 l1 b2 n3 n4 b3 l2 n5 n6 (fun b8 l7 => KL Go.Eng.Ex.normal [(Option.some (Go.Eng.AV.sc (Go.Eng.SV.slc 0 Option.none b1))), (Option.some (Go.Eng.AV.sc (Go.Eng.SV.ptr 1 0 0))), (Option.some (Go.Eng.AV.sc (Go.Eng.SV.ptr 3 0 0)))] [(Option.some (Go.Eng.HE.mk Bool.false (Go.Eng.HB.rows (Go.Sa.B.iFirmTable l1)))), (Option.some (Go.Eng.HE.mk Bool.false (Go.Eng.HB.exp [(Go.Eng.SV.bool b2), (Go.Eng.SV.int Go.IntKind.i64 n3), (Go.Eng.SV.int Go.IntKind.i64 n4), (Go.Eng.SV.slc 2 Option.none b3)]))), (Option.some (Go.Eng.HE.mk Bool.false (Go.Eng.HB.rows (Go.Sa.B.iDevice l2)))), (Option.some (Go.Eng.HE.mk Bool.false (Go.Eng.HB.exp [(Go.Eng.SV.int Go.IntKind.i64 n5), (Go.Eng.SV.int Go.IntKind.i64 n6), (Go.Eng.SV.slc 4 Option.none b8)]))), (Option.some (Go.Eng.HE.mk Bool.false (Go.Eng.HB.rows (Go.Sa.B.iDevice l7))))]) f n2 b4 l3 := by
  intro f
  induction f with
  | zero => intros; rfl
  | succ f ih =>
    intro n2 b4 l3
    rw [iterK_succ, se_spec_BoardOf_w_0]
    exact (congrArg (fun z0 => s_spec_BoardOf_w_0 N b1 l1 b2 n3 n4 b3 l2 n5 n6 n2 b4 l3 z0 (fun b8 l7 => KL Go.Eng.Ex.normal [(Option.some (Go.Eng.AV.sc (Go.Eng.SV.slc 0 Option.none b1))), (Option.some (Go.Eng.AV.sc (Go.Eng.SV.ptr 1 0 0))), (Option.some (Go.Eng.AV.sc (Go.Eng.SV.ptr 3 0 0)))] [(Option.some (Go.Eng.HE.mk Bool.false (Go.Eng.HB.rows (Go.Sa.B.iFirmTable l1)))), (Option.some (Go.Eng.HE.mk Bool.false (Go.Eng.HB.exp [(Go.Eng.SV.bool b2), (Go.Eng.SV.int Go.IntKind.i64 n3), (Go.Eng.SV.int Go.IntKind.i64 n4), (Go.Eng.SV.slc 2 Option.none b3)]))), (Option.some (Go.Eng.HE.mk Bool.false (Go.Eng.HB.rows (Go.Sa.B.iDevice l2)))), (Option.some (Go.Eng.HE.mk Bool.false (Go.Eng.HB.exp [(Go.Eng.SV.int Go.IntKind.i64 n5), (Go.Eng.SV.int Go.IntKind.i64 n6), (Go.Eng.SV.slc 4 Option.none b8)]))), (Option.some (Go.Eng.HE.mk Bool.false (Go.Eng.HB.rows (Go.Sa.B.iDevice l7))))])) (funext fun n2 => funext fun b4 => funext fun l3 => ih n2 b4 l3))
def i_spec_BoardOf_w_0 (N : Nat) {R : Type} (vs : List (Option AV)) (H : Hp E) (KL : Ex → List (Option AV) → Hp E → Option R) : Option R :=
  match vs, H with
  | [(Option.some (Go.Eng.AV.sc (Go.Eng.SV.slc 0 Option.none b1))), (Option.some (Go.Eng.AV.sc (Go.Eng.SV.ptr 1 0 0))), (Option.some (Go.Eng.AV.sc (Go.Eng.SV.ptr 3 0 0))), (Option.some (Go.Eng.AV.sc (Go.Eng.SV.int Go.IntKind.i64 n2)))], [(Option.some (Go.Eng.HE.mk Bool.false (Go.Eng.HB.rows (Go.Sa.B.iFirmTable l1)))), (Option.some (Go.Eng.HE.mk Bool.false (Go.Eng.HB.exp [(Go.Eng.SV.bool b2), (Go.Eng.SV.int Go.IntKind.i64 n3), (Go.Eng.SV.int Go.IntKind.i64 n4), (Go.Eng.SV.slc 2 Option.none b3)]))), (Option.some (Go.Eng.HE.mk Bool.false (Go.Eng.HB.rows (Go.Sa.B.iDevice l2)))), (Option.some (Go.Eng.HE.mk Bool.false (Go.Eng.HB.exp [(Go.Eng.SV.int Go.IntKind.i64 n5), (Go.Eng.SV.int Go.IntKind.i64 n6), (Go.Eng.SV.slc 4 Option.none b4)]))), (Option.some (Go.Eng.HE.mk Bool.false (Go.Eng.HB.rows (Go.Sa.B.iDevice l3))))] => c_spec_BoardOf_w_0 N b1 l1 b2 n3 n4 b3 l2 n5 n6 n2 b4 l3 (fun b9 l8 => KL Go.Eng.Ex.normal [(Option.some (Go.Eng.AV.sc (Go.Eng.SV.slc 0 Option.none b1))), (Option.some (Go.Eng.AV.sc (Go.Eng.SV.ptr 1 0 0))), (Option.some (Go.Eng.AV.sc (Go.Eng.SV.ptr 3 0 0)))] [(Option.some (Go.Eng.HE.mk Bool.false (Go.Eng.HB.rows (Go.Sa.B.iFirmTable l1)))), (Option.some (Go.Eng.HE.mk Bool.false (Go.Eng.HB.exp [(Go.Eng.SV.bool b2), (Go.Eng.SV.int Go.IntKind.i64 n3), (Go.Eng.SV.int Go.IntKind.i64 n4), (Go.Eng.SV.slc 2 Option.none b3)]))), (Option.some (Go.Eng.HE.mk Bool.false (Go.Eng.HB.rows (Go.Sa.B.iDevice l2)))), (Option.some (Go.Eng.HE.mk Bool.false (Go.Eng.HB.exp [(Go.Eng.SV.int Go.IntKind.i64 n5), (Go.Eng.SV.int Go.IntKind.i64 n6), (Go.Eng.SV.slc 4 Option.none b9)]))), (Option.some (Go.Eng.HE.mk Bool.false (Go.Eng.HB.rows (Go.Sa.B.iDevice l8))))])
  | _, _ => none
noncomputable def IT_spec_BoardOf_w_0 (N : Nat) : Its E := addIt 0 (i_spec_BoardOf_w_0 N) (noIt)
theorem IT_spec_BoardOf_w_0_ok (N : Nat) : ItOk (IT_spec_BoardOf_w_0 N) 1 110 sl_spec_BoardOf_w (lsB Go.Proofs.Try.f26 [0]) :=
  addItB_ok (inner := []) ok (O_spec_BoardOf_w_ok N) (jn_ok _ _) (noIt_ok) rfl (by kernel_rfl) rfl fun vs H KL r h => by
    unfold i_spec_BoardOf_w_0 at h
    split at h
    · exact ⟨_, (le_spec_BoardOf_w_0 N _ _ _ _ _ _ _ _ _ KL N _ _ _).trans h⟩
    · cases h
def g_spec_BoardOf_w (N : Nat) {R : Type} (b : Bool) (l : List Go.Sa.FirmTable) (k : Bool → Int → Int → Bool → (List Go.Sa.Device) → Option R) : Option R :=
  (oK (cond ((((List.length l) : Nat) : Int) != (3 : Int))
    (some Bool.true)
    (cond (decide (((0 : Int) < (((List.length l) : Nat) : Int))))
      (elemK l 0 fun x =>
        (cond ((((ByteArray.size (Go.Sa.FirmTable.fBody x)) : Nat) : Int) != (4 : Int))
        (some Bool.true)
        (cond (decide (((1 : Int) < (((List.length l) : Nat) : Int))))
          (elemK l 1 fun x1 =>
            (cond ((((ByteArray.size (Go.Sa.FirmTable.fBody x1)) : Nat) : Int) != (4 : Int))
            (some Bool.true)
            (cond (decide (((2 : Int) < (((List.length l) : Nat) : Int))))
              (elemK l 2 fun x2 =>
                (some (decide (((((ByteArray.size (Go.Sa.FirmTable.fBody x2)) : Nat) : Int) > (64 : Int))))))
              none)))
          none)))
      none)) fun j =>
  (cond j
  (k Bool.false (0 : Int) (0 : Int) Bool.true [])
  (cond (decide (((0 : Int) < (((List.length l) : Nat) : Int))))
    (elemK l 0 fun x3 =>
      (g_spec_l01Word N (Go.Sa.FirmTable.fBody x3) (0 : Int) fun n =>
      (cond (decide (((1 : Int) < (((List.length l) : Nat) : Int))))
      (elemK l 1 fun x4 =>
        (g_spec_l01Word N (Go.Sa.FirmTable.fBody x4) (0 : Int) fun n1 =>
        (c_spec_BoardOf_w_0 N b l Bool.false (0 : Int) (0 : Int) Bool.true [] n n1 (0 : Int) Bool.true [] fun b5 l4 =>
        (g_spec_TablesOf_w N n n1 b5 l4 fun l5 =>
        (oK (cond ((((List.length l5) : Nat) : Int) != (3 : Int))
          (some Bool.true)
          (cond (decide (((0 : Int) < (((List.length l5) : Nat) : Int))))
            (elemK l5 0 fun x7 =>
              (cond (decide (((0 : Int) < (((List.length l) : Nat) : Int))))
              (elemK l 0 fun x8 =>
                (cond (!((decide (((Go.Sa.FirmTable.fName x7) = (Go.Sa.FirmTable.fName x8)))) && (((Go.Sa.FirmTable.fRev x7) == (Go.Sa.FirmTable.fRev x8)) && ((decide (((Go.Sa.FirmTable.fBody x7) = (Go.Sa.FirmTable.fBody x8)))) && Bool.true))))
                (some Bool.true)
                (cond (decide (((1 : Int) < (((List.length l5) : Nat) : Int))))
                  (elemK l5 1 fun x9 =>
                    (cond (decide (((1 : Int) < (((List.length l) : Nat) : Int))))
                    (elemK l 1 fun x10 =>
                      (cond (!((decide (((Go.Sa.FirmTable.fName x9) = (Go.Sa.FirmTable.fName x10)))) && (((Go.Sa.FirmTable.fRev x9) == (Go.Sa.FirmTable.fRev x10)) && ((decide (((Go.Sa.FirmTable.fBody x9) = (Go.Sa.FirmTable.fBody x10)))) && Bool.true))))
                      (some Bool.true)
                      (cond (decide (((2 : Int) < (((List.length l5) : Nat) : Int))))
                        (elemK l5 2 fun x11 =>
                          (cond (decide (((2 : Int) < (((List.length l) : Nat) : Int))))
                          (elemK l 2 fun x12 =>
                            (some (!((decide (((Go.Sa.FirmTable.fName x11) = (Go.Sa.FirmTable.fName x12)))) && (((Go.Sa.FirmTable.fRev x11) == (Go.Sa.FirmTable.fRev x12)) && ((decide (((Go.Sa.FirmTable.fBody x11) = (Go.Sa.FirmTable.fBody x12)))) && Bool.true))))))
                          none))
                        none)))
                    none))
                  none)))
              none))
            none)) fun j1 =>
        (cond j1
        (k Bool.false (0 : Int) (0 : Int) Bool.true [])
        (k Bool.true n n1 b5 l4)))))))
      none)))
    none)))
theorem e_spec_BoardOf_w (N : Nat) {R : Type} (b : Bool) (l : List Go.Sa.FirmTable) (K : AV → Hp E → Option R) :
    runFnI (E := E) (O_spec_BoardOf_w N) (IT_spec_BoardOf_w_0 N) sl_spec_BoardOf_w J_spec_BoardOf_w Go.Proofs.Try.f26 [(Go.Eng.AV.sc (Go.Eng.SV.slc 0 Option.none b))] [(Option.some (Go.Eng.HE.mk Bool.false (Go.Eng.HB.rows (Go.Sa.B.iFirmTable l))))] K =
      g_spec_BoardOf_w N b l (fun b6 n8 n9 b7 l6 => K (Go.Eng.AV.agg [(Go.Eng.SV.bool b6), (Go.Eng.SV.int Go.IntKind.i64 n8), (Go.Eng.SV.int Go.IntKind.i64 n9), (Go.Eng.SV.slc 1 Option.none b7)]) [(Option.some (Go.Eng.HE.mk Bool.false (Go.Eng.HB.rows (Go.Sa.B.iFirmTable l)))), (Option.some (Go.Eng.HE.mk Bool.false (Go.Eng.HB.rows (Go.Sa.B.iDevice l6))))]) := by kernel_rfl
def o_spec_BoardOf_w (N : Nat) {R : Type} (args : List AV) (H : Hp E) (K : AV → Hp E → Option R) : Option R :=
  match args, H with
  | [(Go.Eng.AV.sc (Go.Eng.SV.slc 0 Option.none b))], [(Option.some (Go.Eng.HE.mk Bool.false (Go.Eng.HB.rows (Go.Sa.B.iFirmTable l))))] => g_spec_BoardOf_w N b l (fun b6 n8 n9 b7 l6 => K (Go.Eng.AV.agg [(Go.Eng.SV.bool b6), (Go.Eng.SV.int Go.IntKind.i64 n8), (Go.Eng.SV.int Go.IntKind.i64 n9), (Go.Eng.SV.slc 1 Option.none b7)]) [(Option.some (Go.Eng.HE.mk Bool.false (Go.Eng.HB.rows (Go.Sa.B.iFirmTable l)))), (Option.some (Go.Eng.HE.mk Bool.false (Go.Eng.HB.rows (Go.Sa.B.iDevice l6))))])
  | _, _ => none
theorem o_spec_BoardOf_w_ok (N : Nat) : FnOk E 26 (o_spec_BoardOf_w N) := by
  intro R args H K r h
  unfold o_spec_BoardOf_w at h
  dsimp only at h
  split at h
  · exact fnB_ok (ids := [0]) (top := [0]) ok (O_spec_BoardOf_w_ok N) (jn_ok _ _) Go.Proofs.Try.func26 (by kernel_rfl) (IT := IT_spec_BoardOf_w_0 N) (sl := sl_spec_BoardOf_w) (J := J_spec_BoardOf_w) (K := K) (H := [(Option.some (Go.Eng.HE.mk Bool.false (Go.Eng.HB.rows (Go.Sa.B.iFirmTable _))))]) (IT_spec_BoardOf_w_0_ok N) (by kernel_rfl) rfl ((e_spec_BoardOf_w N _ _ K).trans h)
  · cases h
/-! ### loop.example/g00038/impl.ytableName -/
abbrev sl_impl_ytableName : SlotT := [(0, ([0, 5, 6], [0, 2]))]
abbrev J_impl_ytableName : JT := jn [(4, [(18, .b)])] []
noncomputable def O_impl_ytableName (N : Nat) : Orc E := noFn
theorem O_impl_ytableName_ok (N : Nat) : OrcOk (O_impl_ytableName N) := noFn_ok
def s_impl_ytableName_0 (N : Nat) {R : Type} (s1 : ByteArray) (n : Int) (n1 : Int) (ag : Int → Option R)  (kR : Option R) (kN : Option R) : Option R :=
  (cond (decide ((n1 < n)))
  (oK (cond ((decide (((0 : Int) ≤ n1))) && (decide ((n1 < (((ByteArray.size s1) : Nat) : Int)))))
      (cond (decide (((Go.Eng.bt s1 (Int.toNat n1)) < (65 : Int))))
        (some Bool.true)
        (cond ((decide (((0 : Int) ≤ n1))) && (decide ((n1 < (((ByteArray.size s1) : Nat) : Int)))))
          (some (decide (((Go.Eng.bt s1 (Int.toNat n1)) > (90 : Int)))))
          none))
      none) fun j =>
    (cond j
    kR
    (ag (Go.IntKind.wrap Go.IntKind.i64 (n1 + (1 : Int))))))
  kN)
def l_impl_ytableName_0 (N : Nat) {R : Type} (s1 : ByteArray) (n : Int) (kR : Option R) (kN : Option R) : Nat → Int → Option R
  | 0, _ => none
  | f + 1, n1 => s_impl_ytableName_0 N s1 n n1 (fun n1 => l_impl_ytableName_0 N s1 n kR kN f n1)  kR kN
def c_impl_ytableName_0 (N : Nat) {R : Type} (s1 : ByteArray) (n : Int) (n1 : Int) (kR : Option R) (kN : Option R) : Option R := l_impl_ytableName_0 N s1 n kR kN N n1
theorem se_impl_ytableName_0 (N : Nat) {R : Type} (s1 : ByteArray) (n : Int) (n1 : Int) (AG : List (Option AV) → Hp E → Option R) (KL : Ex → List (Option AV) → Hp E → Option R) :
    iterStep (E := E) (O_impl_ytableName N) (fun {R} => LI (noIt) 0 23 sl_impl_ytableName (R := R)) J_impl_ytableName 0 23 0 [0, 5, 6] [0, 2] (body Go.Proofs.Try.f154 0) AG KL [(Option.some (Go.Eng.AV.sc (Go.Eng.SV.str s1))), (Option.some (Go.Eng.AV.sc (Go.Eng.SV.int Go.IntKind.i64 n))), (Option.some (Go.Eng.AV.sc (Go.Eng.SV.int Go.IntKind.i64 n1)))] [] =
      s_impl_ytableName_0 N s1 n n1 (fun n1 => AG [(Option.some (Go.Eng.AV.sc (Go.Eng.SV.str s1))), (Option.some (Go.Eng.AV.sc (Go.Eng.SV.int Go.IntKind.i64 n))), (Option.some (Go.Eng.AV.sc (Go.Eng.SV.int Go.IntKind.i64 n1)))] [])  (KL Go.Eng.Ex.ret [(Option.some (Go.Eng.AV.sc (Go.Eng.SV.str s1))), (Option.some (Go.Eng.AV.sc (Go.Eng.SV.bool Bool.false)))] []) (KL Go.Eng.Ex.normal [(Option.some (Go.Eng.AV.sc (Go.Eng.SV.str s1))), Option.none] []) := by kernel_rfl
theorem le_impl_ytableName_0 (N : Nat) {R : Type} (s1 : ByteArray) (n : Int) (KL : Ex → List (Option AV) → Hp E → Option R) : ∀ (f : Nat), ∀ (n1 : Int), iterK (E := E) (O_impl_ytableName N) (fun {R} => LI (noIt) 0 23 sl_impl_ytableName (R := R)) J_impl_ytableName 0 23 0 [0, 5, 6] [0, 2] (body Go.Proofs.Try.f154 0) f [(Option.some (Go.Eng.AV.sc (Go.Eng.SV.str s1))), (Option.some (Go.Eng.AV.sc (Go.Eng.SV.int Go.IntKind.i64 n))), (Option.some (Go.Eng.AV.sc (Go.Eng.SV.int Go.IntKind.i64 n1)))] [] KL = l_impl_ytableName_0 N s1 n (KL Go.Eng.Ex.ret [(Option.some (Go.Eng.AV.sc (Go.Eng.SV.str s1))), (Option.some (Go.Eng.AV.sc (Go.Eng.SV.bool Bool.false)))] []) (KL Go.Eng.Ex.normal [(Option.some (Go.Eng.AV.sc (Go.Eng.SV.str s1))), Option.none] []) f n1 := by
  intro f
  induction f with
  | zero => intros; rfl
  | succ f ih =>
    intro n1
    rw [iterK_succ, se_impl_ytableName_0]
    exact (congrArg (fun z0 => s_impl_ytableName_0 N s1 n n1 z0 (KL Go.Eng.Ex.ret [(Option.some (Go.Eng.AV.sc (Go.Eng.SV.str s1))), (Option.some (Go.Eng.AV.sc (Go.Eng.SV.bool Bool.false)))] []) (KL Go.Eng.Ex.normal [(Option.some (Go.Eng.AV.sc (Go.Eng.SV.str s1))), Option.none] [])) (funext fun n1 => ih n1))
def i_impl_ytableName_0 (N : Nat) {R : Type} (vs : List (Option AV)) (H : Hp E) (KL : Ex → List (Option AV) → Hp E → Option R) : Option R :=
  match vs, H with
  | [(Option.some (Go.Eng.AV.sc (Go.Eng.SV.str s1))), (Option.some (Go.Eng.AV.sc (Go.Eng.SV.int Go.IntKind.i64 n))), (Option.some (Go.Eng.AV.sc (Go.Eng.SV.int Go.IntKind.i64 n1)))], [] => c_impl_ytableName_0 N s1 n n1 (KL Go.Eng.Ex.ret [(Option.some (Go.Eng.AV.sc (Go.Eng.SV.str s1))), (Option.some (Go.Eng.AV.sc (Go.Eng.SV.bool Bool.false)))] []) (KL Go.Eng.Ex.normal [(Option.some (Go.Eng.AV.sc (Go.Eng.SV.str s1))), Option.none] [])
  | _, _ => none
noncomputable def IT_impl_ytableName_0 (N : Nat) : Its E := addIt 0 (i_impl_ytableName_0 N) (noIt)
theorem IT_impl_ytableName_0_ok (N : Nat) : ItOk (IT_impl_ytableName_0 N) 0 23 sl_impl_ytableName (lsB Go.Proofs.Try.f154 [0]) :=
  addItB_ok (inner := []) ok (O_impl_ytableName_ok N) (jn_ok _ _) (noIt_ok) rfl (by kernel_rfl) rfl fun vs H KL r h => by
    unfold i_impl_ytableName_0 at h
    split at h
    · exact ⟨_, (le_impl_ytableName_0 N _ _ KL N _).trans h⟩
    · cases h
def g_impl_ytableName (N : Nat) {R : Type} (s : ByteArray) (k : Bool → Option R) : Option R :=
  (c_impl_ytableName_0 N s (((ByteArray.size s) : Nat) : Int) (0 : Int) (
  (k Bool.false)) (
  (k ((((ByteArray.size s) : Nat) : Int) == (4 : Int)))))
theorem e_impl_ytableName (N : Nat) {R : Type} (s : ByteArray) (K : AV → Hp E → Option R) :
    runFnI (E := E) (O_impl_ytableName N) (IT_impl_ytableName_0 N) sl_impl_ytableName J_impl_ytableName Go.Proofs.Try.f154 [(Go.Eng.AV.sc (Go.Eng.SV.str s))] [] K =
      g_impl_ytableName N s (fun b => K (Go.Eng.AV.sc (Go.Eng.SV.bool b)) []) := by kernel_rfl
def o_impl_ytableName (N : Nat) {R : Type} (args : List AV) (H : Hp E) (K : AV → Hp E → Option R) : Option R :=
  match args, H with
  | [(Go.Eng.AV.sc (Go.Eng.SV.str s))], [] => g_impl_ytableName N s (fun b => K (Go.Eng.AV.sc (Go.Eng.SV.bool b)) [])
  | _, _ => none
theorem o_impl_ytableName_ok (N : Nat) : FnOk E 154 (o_impl_ytableName N) := by
  intro R args H K r h
  unfold o_impl_ytableName at h
  dsimp only at h
  split at h
  · exact fnB_ok (ids := [0]) (top := [0]) ok (O_impl_ytableName_ok N) (jn_ok _ _) Go.Proofs.Try.func154 (by kernel_rfl) (IT := IT_impl_ytableName_0 N) (sl := sl_impl_ytableName) (J := J_impl_ytableName) (K := K) (H := []) (IT_impl_ytableName_0_ok N) (by kernel_rfl) rfl ((e_impl_ytableName N _ K).trans h)
  · cases h
/-! ### loop.example/g00038/impl.yin -/
abbrev sl_impl_yin : SlotT := []
abbrev J_impl_yin : JT := jn [(1, [(6, .b)])] []
noncomputable def O_impl_yin (N : Nat) : Orc E := noFn
theorem O_impl_yin_ok (N : Nat) : OrcOk (O_impl_yin N) := noFn_ok
def g_impl_yin (N : Nat) {R : Type} (n : Int) (n1 : Int) (n2 : Int) (k : Bool → Option R) : Option R :=
  (oK (cond (decide ((n ≥ n1)))
    (some (decide ((n ≤ n2))))
    (some Bool.false)) fun j =>
  (k j))
theorem e_impl_yin (N : Nat) {R : Type} (n : Int) (n1 : Int) (n2 : Int) (K : AV → Hp E → Option R) :
    runFnI (E := E) (O_impl_yin N) (noIt) sl_impl_yin J_impl_yin Go.Proofs.Try.f96 [(Go.Eng.AV.sc (Go.Eng.SV.int Go.IntKind.i64 n)), (Go.Eng.AV.sc (Go.Eng.SV.int Go.IntKind.i64 n1)), (Go.Eng.AV.sc (Go.Eng.SV.int Go.IntKind.i64 n2))] [] K =
      g_impl_yin N n n1 n2 (fun b => K (Go.Eng.AV.sc (Go.Eng.SV.bool b)) []) := by kernel_rfl
def o_impl_yin (N : Nat) {R : Type} (args : List AV) (H : Hp E) (K : AV → Hp E → Option R) : Option R :=
  match args, H with
  | [(Go.Eng.AV.sc (Go.Eng.SV.int Go.IntKind.i64 n)), (Go.Eng.AV.sc (Go.Eng.SV.int Go.IntKind.i64 n1)), (Go.Eng.AV.sc (Go.Eng.SV.int Go.IntKind.i64 n2))], [] => g_impl_yin N n n1 n2 (fun b => K (Go.Eng.AV.sc (Go.Eng.SV.bool b)) [])
  | _, _ => none
theorem o_impl_yin_ok (N : Nat) : FnOk E 96 (o_impl_yin N) := by
  intro R args H K r h
  unfold o_impl_yin at h
  dsimp only at h
  split at h
  · exact fnB_ok (ids := []) (top := []) ok (O_impl_yin_ok N) (jn_ok _ _) Go.Proofs.Try.func96 (by kernel_rfl) (IT := noIt) (sl := sl_impl_yin) (J := J_impl_yin) (K := K) (H := []) (noIt_ok) (by kernel_rfl) rfl ((e_impl_yin N _ _ _ K).trans h)
  · cases h
/-! ### loop.example/g00038/impl.ytableOk -/
abbrev sl_impl_ytableOk : SlotT := []
abbrev J_impl_ytableOk : JT := jn [(1, [(2, .b)])] []
noncomputable def O_impl_ytableOk (N : Nat) : Orc E := addFn 96 (o_impl_yin N) (addFn 154 (o_impl_ytableName N) (noFn))
theorem O_impl_ytableOk_ok (N : Nat) : OrcOk (O_impl_ytableOk N) := addFn_ok (o_impl_yin_ok N) (addFn_ok (o_impl_ytableName_ok N) (noFn_ok))
def g_impl_ytableOk (N : Nat) {R : Type} (s : ByteArray) (n : Int) (s1 : ByteArray) (k : Bool → Option R) : Option R :=
  (oK (g_impl_ytableName N s fun b =>
    (cond b
    (g_impl_yin N n (0 : Int) (255 : Int) fun b1 =>
      (cond b1
      (cond (decide (((((ByteArray.size s1) : Nat) : Int) ≤ (200 : Int))))
        (some ((Int.tmod (((ByteArray.size s1) : Nat) : Int) (4 : Int)) == (0 : Int)))
        (some Bool.false))
      (some Bool.false)))
    (some Bool.false))) fun j =>
  (k j))
theorem e_impl_ytableOk (N : Nat) {R : Type} (s : ByteArray) (n : Int) (s1 : ByteArray) (K : AV → Hp E → Option R) :
    runFnI (E := E) (O_impl_ytableOk N) (noIt) sl_impl_ytableOk J_impl_ytableOk Go.Proofs.Try.f84 [(Go.Eng.AV.agg [(Go.Eng.SV.str s), (Go.Eng.SV.int Go.IntKind.i64 n), (Go.Eng.SV.str s1)])] [] K =
      g_impl_ytableOk N s n s1 (fun b2 => K (Go.Eng.AV.sc (Go.Eng.SV.bool b2)) []) := by kernel_rfl
def o_impl_ytableOk (N : Nat) {R : Type} (args : List AV) (H : Hp E) (K : AV → Hp E → Option R) : Option R :=
  match args, H with
  | [(Go.Eng.AV.agg [(Go.Eng.SV.str s), (Go.Eng.SV.int Go.IntKind.i64 n), (Go.Eng.SV.str s1)])], [] => g_impl_ytableOk N s n s1 (fun b2 => K (Go.Eng.AV.sc (Go.Eng.SV.bool b2)) [])
  | _, _ => none
theorem o_impl_ytableOk_ok (N : Nat) : FnOk E 84 (o_impl_ytableOk N) := by
  intro R args H K r h
  unfold o_impl_ytableOk at h
  dsimp only at h
  split at h
  · exact fnB_ok (ids := []) (top := []) ok (O_impl_ytableOk_ok N) (jn_ok _ _) Go.Proofs.Try.func84 (by kernel_rfl) (IT := noIt) (sl := sl_impl_ytableOk) (J := J_impl_ytableOk) (K := K) (H := []) (noIt_ok) (by kernel_rfl) rfl ((e_impl_ytableOk N _ _ _ K).trans h)
  · cases h
/-! ### loop.example/g00038/impl.BoardOf$1 -/
abbrev sl_impl_BoardOf_1 : SlotT := []
abbrev J_impl_BoardOf_1 : JT := jn [] []
noncomputable def O_impl_BoardOf_1 (N : Nat) : Orc E := addFn 84 (o_impl_ytableOk N) (noFn)
theorem O_impl_BoardOf_1_ok (N : Nat) : OrcOk (O_impl_BoardOf_1 N) := addFn_ok (o_impl_ytableOk_ok N) (noFn_ok)
def g_impl_BoardOf_1 (N : Nat) {R : Type} (s : ByteArray) (n : Int) (s1 : ByteArray) (k : Bool → Option R) : Option R :=
  (g_impl_ytableOk N s n s1 fun b =>
  (k (!b)))
theorem e_impl_BoardOf_1 (N : Nat) {R : Type} (s : ByteArray) (n : Int) (s1 : ByteArray) (K : AV → Hp E → Option R) :
    runFnI (E := E) (O_impl_BoardOf_1 N) (noIt) sl_impl_BoardOf_1 J_impl_BoardOf_1 Go.Proofs.Try.f83 [(Go.Eng.AV.agg [(Go.Eng.SV.str s), (Go.Eng.SV.int Go.IntKind.i64 n), (Go.Eng.SV.str s1)])] [] K =
      g_impl_BoardOf_1 N s n s1 (fun b1 => K (Go.Eng.AV.sc (Go.Eng.SV.bool b1)) []) := by kernel_rfl
def o_impl_BoardOf_1 (N : Nat) {R : Type} (args : List AV) (H : Hp E) (K : AV → Hp E → Option R) : Option R :=
  match args, H with
  | [(Go.Eng.AV.agg [(Go.Eng.SV.str s), (Go.Eng.SV.int Go.IntKind.i64 n), (Go.Eng.SV.str s1)])], [] => g_impl_BoardOf_1 N s n s1 (fun b1 => K (Go.Eng.AV.sc (Go.Eng.SV.bool b1)) [])
  | _, _ => none
theorem o_impl_BoardOf_1_ok (N : Nat) : FnOk E 83 (o_impl_BoardOf_1 N) := by
  intro R args H K r h
  unfold o_impl_BoardOf_1 at h
  dsimp only at h
  split at h
  · exact fnB_ok (ids := []) (top := []) ok (O_impl_BoardOf_1_ok N) (jn_ok _ _) Go.Proofs.Try.func83 (by kernel_rfl) (IT := noIt) (sl := sl_impl_BoardOf_1) (J := J_impl_BoardOf_1) (K := K) (H := []) (noIt_ok) (by kernel_rfl) rfl ((e_impl_BoardOf_1 N _ _ _ K).trans h)
  · cases h
/-! ### slices.IndexFunc[[]loop.example/g00038/impl.FirmTable,loop.example/g00038/impl.FirmTable] -/
abbrev sl_slices_IndexFunc_FirmTable_Fimpl_BoardOf_1_r : SlotT := [(0, ([0, 1, 7, 8], [4]))]
abbrev J_slices_IndexFunc_FirmTable_Fimpl_BoardOf_1_r : JT := jn [] []
noncomputable def O_slices_IndexFunc_FirmTable_Fimpl_BoardOf_1_r (N : Nat) : Orc E := addFn 83 (o_impl_BoardOf_1 N) (noFn)
theorem O_slices_IndexFunc_FirmTable_Fimpl_BoardOf_1_r_ok (N : Nat) : OrcOk (O_slices_IndexFunc_FirmTable_Fimpl_BoardOf_1_r N) := addFn_ok (o_impl_BoardOf_1_ok N) (noFn_ok)
def s_slices_IndexFunc_FirmTable_Fimpl_BoardOf_1_r_0 (N : Nat) {R : Type} (b1 : Bool) (n : Int) (l1 : List Go.Sa.FirmTable) (n1 : Int) (ag : Int → Option R)  (kR : Int → Option R) (kN : Option R) : Option R :=
  (cond (decide ((n1 < n)))
  (cond ((decide (((0 : Int) ≤ n1))) && (decide ((n1 < (((List.length l1) : Nat) : Int)))))
    (elemK l1 (Int.toNat n1) fun x =>
      (g_impl_BoardOf_1 N (Go.Sa.FirmTable.fName x) (Go.Sa.FirmTable.fRev x) (Go.Sa.FirmTable.fBody x) fun b2 =>
      (cond b2
      (kR n1)
      (ag (Go.IntKind.wrap Go.IntKind.i64 (n1 + (1 : Int)))))))
    none)
  kN)
def l_slices_IndexFunc_FirmTable_Fimpl_BoardOf_1_r_0 (N : Nat) {R : Type} (b1 : Bool) (n : Int) (l1 : List Go.Sa.FirmTable) (kR : Int → Option R) (kN : Option R) : Nat → Int → Option R
  | 0, _ => none
  | f + 1, n1 => s_slices_IndexFunc_FirmTable_Fimpl_BoardOf_1_r_0 N b1 n l1 n1 (fun n1 => l_slices_IndexFunc_FirmTable_Fimpl_BoardOf_1_r_0 N b1 n l1 kR kN f n1)  kR kN
def c_slices_IndexFunc_FirmTable_Fimpl_BoardOf_1_r_0 (N : Nat) {R : Type} (b1 : Bool) (n : Int) (l1 : List Go.Sa.FirmTable) (n1 : Int) (kR : Int → Option R) (kN : Option R) : Option R := l_slices_IndexFunc_FirmTable_Fimpl_BoardOf_1_r_0 N b1 n l1 kR kN N n1
theorem se_slices_IndexFunc_FirmTable_Fimpl_BoardOf_1_r_0 (N : Nat) {R : Type} (b1 : Bool) (n : Int) (l1 : List Go.Sa.FirmTable) (n1 : Int) (AG : List (Option AV) → Hp E → Option R) (KL : Ex → List (Option AV) → Hp E → Option R) :
    iterStep (E := E) (O_slices_IndexFunc_FirmTable_Fimpl_BoardOf_1_r N) (fun {R} => LI (noIt) 1 19 sl_slices_IndexFunc_FirmTable_Fimpl_BoardOf_1_r (R := R)) J_slices_IndexFunc_FirmTable_Fimpl_BoardOf_1_r 1 19 0 [0, 1, 7, 8] [4] (body Go.Proofs.Try.f153 0) AG KL [(Option.some (Go.Eng.AV.sc (Go.Eng.SV.slc 0 Option.none b1))), (Option.some (Go.Eng.AV.sc (Go.Eng.SV.fn 83 []))), (Option.some (Go.Eng.AV.sc (Go.Eng.SV.int Go.IntKind.i64 n))), (Option.some (Go.Eng.AV.sc (Go.Eng.SV.int Go.IntKind.i64 n1)))] [(Option.some (Go.Eng.HE.mk Bool.true (Go.Eng.HB.rows (Go.Sa.B.iFirmTable l1))))] =
      s_slices_IndexFunc_FirmTable_Fimpl_BoardOf_1_r_0 N b1 n l1 n1 (fun n1 => AG [(Option.some (Go.Eng.AV.sc (Go.Eng.SV.slc 0 Option.none b1))), (Option.some (Go.Eng.AV.sc (Go.Eng.SV.fn 83 []))), (Option.some (Go.Eng.AV.sc (Go.Eng.SV.int Go.IntKind.i64 n))), (Option.some (Go.Eng.AV.sc (Go.Eng.SV.int Go.IntKind.i64 n1)))] [(Option.some (Go.Eng.HE.mk Bool.true (Go.Eng.HB.rows (Go.Sa.B.iFirmTable l1))))])  (fun n4 => KL Go.Eng.Ex.ret [(Option.some (Go.Eng.AV.sc (Go.Eng.SV.int Go.IntKind.i64 n4)))] [(Option.some (Go.Eng.HE.mk Bool.true (Go.Eng.HB.rows (Go.Sa.B.iFirmTable l1))))]) (KL Go.Eng.Ex.normal [Option.none] [(Option.some (Go.Eng.HE.mk Bool.true (Go.Eng.HB.rows (Go.Sa.B.iFirmTable l1))))]) := by kernel_rfl
theorem le_slices_IndexFunc_FirmTable_Fimpl_BoardOf_1_r_0 (N : Nat) {R : Type} (b1 : Bool) (n : Int) (l1 : List Go.Sa.FirmTable) (KL : Ex → List (Option AV) → Hp E → Option R) : ∀ (f : Nat), ∀ (n1 : Int), iterK (E := E) (O_slices_IndexFunc_FirmTable_Fimpl_BoardOf_1_r N) (fun {R} => LI (noIt) 1 19 sl_slices_IndexFunc_FirmTable_Fimpl_BoardOf_1_r (R := R)) J_slices_IndexFunc_FirmTable_Fimpl_BoardOf_1_r 1 19 0 [0, 1, 7, 8] [4] (body Go.Proofs.Try.f153 0) f [(Option.some (Go.Eng.AV.sc (Go.Eng.SV.slc 0 Option.none b1))), (Option.some (Go.Eng.AV.sc (Go.Eng.SV.fn 83 []))), (Option.some (Go.Eng.AV.sc (Go.Eng.SV.int Go.IntKind.i64 n))), (Option.some (Go.Eng.AV.sc (Go.Eng.SV.int Go.IntKind.i64 n1)))] [(Option.some (Go.Eng.HE.mk Bool.true (Go.Eng.HB.rows (Go.Sa.B.iFirmTable l1))))] KL = l_slices_IndexFunc_FirmTable_Fimpl_BoardOf_1_r_0 N b1 n l1 (fun n4 => KL Go.Eng.Ex.ret [(Option.some (Go.Eng.AV.sc (Go.Eng.SV.int Go.IntKind.i64 n4)))] [(Option.some (Go.Eng.HE.mk Bool.true (Go.Eng.HB.rows (Go.Sa.B.iFirmTable l1))))]) (KL Go.Eng.Ex.normal [Option.none] [(Option.some (Go.Eng.HE.mk Bool.true (Go.Eng.HB.rows (Go.Sa.B.iFirmTable l1))))]) f n1 := by
  intro f
  induction f with
  | zero => intros; rfl
  | succ f ih =>
    intro n1
    rw [iterK_succ, se_slices_IndexFunc_FirmTable_Fimpl_BoardOf_1_r_0]
    exact (congrArg (fun z0 => s_slices_IndexFunc_FirmTable_Fimpl_BoardOf_1_r_0 N b1 n l1 n1 z0 (fun n4 => KL Go.Eng.Ex.ret [(Option.some (Go.Eng.AV.sc (Go.Eng.SV.int Go.IntKind.i64 n4)))] [(Option.some (Go.Eng.HE.mk Bool.true (Go.Eng.HB.rows (Go.Sa.B.iFirmTable l1))))]) (KL Go.Eng.Ex.normal [Option.none] [(Option.some (Go.Eng.HE.mk Bool.true (Go.Eng.HB.rows (Go.Sa.B.iFirmTable l1))))])) (funext fun n1 => ih n1))
def i_slices_IndexFunc_FirmTable_Fimpl_BoardOf_1_r_0 (N : Nat) {R : Type} (vs : List (Option AV)) (H : Hp E) (KL : Ex → List (Option AV) → Hp E → Option R) : Option R :=
  match vs, H with
  | [(Option.some (Go.Eng.AV.sc (Go.Eng.SV.slc 0 Option.none b1))), (Option.some (Go.Eng.AV.sc (Go.Eng.SV.fn 83 []))), (Option.some (Go.Eng.AV.sc (Go.Eng.SV.int Go.IntKind.i64 n))), (Option.some (Go.Eng.AV.sc (Go.Eng.SV.int Go.IntKind.i64 n1)))], [(Option.some (Go.Eng.HE.mk Bool.true (Go.Eng.HB.rows (Go.Sa.B.iFirmTable l1))))] => c_slices_IndexFunc_FirmTable_Fimpl_BoardOf_1_r_0 N b1 n l1 n1 (fun n5 => KL Go.Eng.Ex.ret [(Option.some (Go.Eng.AV.sc (Go.Eng.SV.int Go.IntKind.i64 n5)))] [(Option.some (Go.Eng.HE.mk Bool.true (Go.Eng.HB.rows (Go.Sa.B.iFirmTable l1))))]) (KL Go.Eng.Ex.normal [Option.none] [(Option.some (Go.Eng.HE.mk Bool.true (Go.Eng.HB.rows (Go.Sa.B.iFirmTable l1))))])
  | _, _ => none
noncomputable def IT_slices_IndexFunc_FirmTable_Fimpl_BoardOf_1_r_0 (N : Nat) : Its E := addIt 0 (i_slices_IndexFunc_FirmTable_Fimpl_BoardOf_1_r_0 N) (noIt)
theorem IT_slices_IndexFunc_FirmTable_Fimpl_BoardOf_1_r_0_ok (N : Nat) : ItOk (IT_slices_IndexFunc_FirmTable_Fimpl_BoardOf_1_r_0 N) 1 19 sl_slices_IndexFunc_FirmTable_Fimpl_BoardOf_1_r (lsB Go.Proofs.Try.f153 [0]) :=
  addItB_ok (inner := []) ok (O_slices_IndexFunc_FirmTable_Fimpl_BoardOf_1_r_ok N) (jn_ok _ _) (noIt_ok) rfl (by kernel_rfl) rfl fun vs H KL r h => by
    unfold i_slices_IndexFunc_FirmTable_Fimpl_BoardOf_1_r_0 at h
    split at h
    · exact ⟨_, (le_slices_IndexFunc_FirmTable_Fimpl_BoardOf_1_r_0 N _ _ _ KL N _).trans h⟩
    · cases h
def g_slices_IndexFunc_FirmTable_Fimpl_BoardOf_1_r (N : Nat) {R : Type} (b : Bool) (l : List Go.Sa.FirmTable) (k : Int → Option R) : Option R :=
  (c_slices_IndexFunc_FirmTable_Fimpl_BoardOf_1_r_0 N b (((List.length l) : Nat) : Int) l (0 : Int) (fun n2 =>
  (k n2)) (
  (k (-(1 : Int)))))
theorem e_slices_IndexFunc_FirmTable_Fimpl_BoardOf_1_r (N : Nat) {R : Type} (b : Bool) (l : List Go.Sa.FirmTable) (K : AV → Hp E → Option R) :
    runFnI (E := E) (O_slices_IndexFunc_FirmTable_Fimpl_BoardOf_1_r N) (IT_slices_IndexFunc_FirmTable_Fimpl_BoardOf_1_r_0 N) sl_slices_IndexFunc_FirmTable_Fimpl_BoardOf_1_r J_slices_IndexFunc_FirmTable_Fimpl_BoardOf_1_r Go.Proofs.Try.f153 [(Go.Eng.AV.sc (Go.Eng.SV.slc 0 Option.none b)), (Go.Eng.AV.sc (Go.Eng.SV.fn 83 []))] [(Option.some (Go.Eng.HE.mk Bool.true (Go.Eng.HB.rows (Go.Sa.B.iFirmTable l))))] K =
      g_slices_IndexFunc_FirmTable_Fimpl_BoardOf_1_r N b l (fun n3 => K (Go.Eng.AV.sc (Go.Eng.SV.int Go.IntKind.i64 n3)) [(Option.some (Go.Eng.HE.mk Bool.true (Go.Eng.HB.rows (Go.Sa.B.iFirmTable l))))]) := by kernel_rfl
def o_slices_IndexFunc_FirmTable_Fimpl_BoardOf_1_r (N : Nat) {R : Type} (args : List AV) (H : Hp E) (K : AV → Hp E → Option R) : Option R :=
  match args, H with
  | [(Go.Eng.AV.sc (Go.Eng.SV.slc 0 Option.none b)), (Go.Eng.AV.sc (Go.Eng.SV.fn 83 []))], [(Option.some (Go.Eng.HE.mk Bool.true (Go.Eng.HB.rows (Go.Sa.B.iFirmTable l))))] => g_slices_IndexFunc_FirmTable_Fimpl_BoardOf_1_r N b l (fun n3 => K (Go.Eng.AV.sc (Go.Eng.SV.int Go.IntKind.i64 n3)) [(Option.some (Go.Eng.HE.mk Bool.true (Go.Eng.HB.rows (Go.Sa.B.iFirmTable l))))])
  | _, _ => none
theorem o_slices_IndexFunc_FirmTable_Fimpl_BoardOf_1_r_ok (N : Nat) : FnOk E 153 (o_slices_IndexFunc_FirmTable_Fimpl_BoardOf_1_r N) := by
  intro R args H K r h
  unfold o_slices_IndexFunc_FirmTable_Fimpl_BoardOf_1_r at h
  dsimp only at h
  split at h
  · exact fnB_ok (ids := [0]) (top := [0]) ok (O_slices_IndexFunc_FirmTable_Fimpl_BoardOf_1_r_ok N) (jn_ok _ _) Go.Proofs.Try.func153 (by kernel_rfl) (IT := IT_slices_IndexFunc_FirmTable_Fimpl_BoardOf_1_r_0 N) (sl := sl_slices_IndexFunc_FirmTable_Fimpl_BoardOf_1_r) (J := J_slices_IndexFunc_FirmTable_Fimpl_BoardOf_1_r) (K := K) (H := [(Option.some (Go.Eng.HE.mk Bool.true (Go.Eng.HB.rows (Go.Sa.B.iFirmTable _))))]) (IT_slices_IndexFunc_FirmTable_Fimpl_BoardOf_1_r_0_ok N) (by kernel_rfl) rfl ((e_slices_IndexFunc_FirmTable_Fimpl_BoardOf_1_r N _ _ K).trans h)
  · cases h
/-! ### slices.ContainsFunc[[]loop.example/g00038/impl.FirmTable,loop.example/g00038/impl.FirmTable] -/
abbrev sl_slices_ContainsFunc_FirmTable_Fimpl_BoardOf_1_r : SlotT := []
abbrev J_slices_ContainsFunc_FirmTable_Fimpl_BoardOf_1_r : JT := jn [] []
noncomputable def O_slices_ContainsFunc_FirmTable_Fimpl_BoardOf_1_r (N : Nat) : Orc E := addFn 153 (o_slices_IndexFunc_FirmTable_Fimpl_BoardOf_1_r N) (noFn)
theorem O_slices_ContainsFunc_FirmTable_Fimpl_BoardOf_1_r_ok (N : Nat) : OrcOk (O_slices_ContainsFunc_FirmTable_Fimpl_BoardOf_1_r N) := addFn_ok (o_slices_IndexFunc_FirmTable_Fimpl_BoardOf_1_r_ok N) (noFn_ok)
def g_slices_ContainsFunc_FirmTable_Fimpl_BoardOf_1_r (N : Nat) {R : Type} (b : Bool) (l : List Go.Sa.FirmTable) (k : Bool → Option R) : Option R :=
  (g_slices_IndexFunc_FirmTable_Fimpl_BoardOf_1_r N b l fun n =>
  (k (decide ((n ≥ (0 : Int))))))
theorem e_slices_ContainsFunc_FirmTable_Fimpl_BoardOf_1_r (N : Nat) {R : Type} (b : Bool) (l : List Go.Sa.FirmTable) (K : AV → Hp E → Option R) :
    runFnI (E := E) (O_slices_ContainsFunc_FirmTable_Fimpl_BoardOf_1_r N) (noIt) sl_slices_ContainsFunc_FirmTable_Fimpl_BoardOf_1_r J_slices_ContainsFunc_FirmTable_Fimpl_BoardOf_1_r Go.Proofs.Try.f82 [(Go.Eng.AV.sc (Go.Eng.SV.slc 0 Option.none b)), (Go.Eng.AV.sc (Go.Eng.SV.fn 83 []))] [(Option.some (Go.Eng.HE.mk Bool.true (Go.Eng.HB.rows (Go.Sa.B.iFirmTable l))))] K =
      g_slices_ContainsFunc_FirmTable_Fimpl_BoardOf_1_r N b l (fun b1 => K (Go.Eng.AV.sc (Go.Eng.SV.bool b1)) [(Option.some (Go.Eng.HE.mk Bool.true (Go.Eng.HB.rows (Go.Sa.B.iFirmTable l))))]) := by kernel_rfl
def o_slices_ContainsFunc_FirmTable_Fimpl_BoardOf_1_r (N : Nat) {R : Type} (args : List AV) (H : Hp E) (K : AV → Hp E → Option R) : Option R :=
  match args, H with
  | [(Go.Eng.AV.sc (Go.Eng.SV.slc 0 Option.none b)), (Go.Eng.AV.sc (Go.Eng.SV.fn 83 []))], [(Option.some (Go.Eng.HE.mk Bool.true (Go.Eng.HB.rows (Go.Sa.B.iFirmTable l))))] => g_slices_ContainsFunc_FirmTable_Fimpl_BoardOf_1_r N b l (fun b1 => K (Go.Eng.AV.sc (Go.Eng.SV.bool b1)) [(Option.some (Go.Eng.HE.mk Bool.true (Go.Eng.HB.rows (Go.Sa.B.iFirmTable l))))])
  | _, _ => none
theorem o_slices_ContainsFunc_FirmTable_Fimpl_BoardOf_1_r_ok (N : Nat) : FnOk E 82 (o_slices_ContainsFunc_FirmTable_Fimpl_BoardOf_1_r N) := by
  intro R args H K r h
  unfold o_slices_ContainsFunc_FirmTable_Fimpl_BoardOf_1_r at h
  dsimp only at h
  split at h
  · exact fnB_ok (ids := []) (top := []) ok (O_slices_ContainsFunc_FirmTable_Fimpl_BoardOf_1_r_ok N) (jn_ok _ _) Go.Proofs.Try.func82 (by kernel_rfl) (IT := noIt) (sl := sl_slices_ContainsFunc_FirmTable_Fimpl_BoardOf_1_r) (J := J_slices_ContainsFunc_FirmTable_Fimpl_BoardOf_1_r) (K := K) (H := [(Option.some (Go.Eng.HE.mk Bool.true (Go.Eng.HB.rows (Go.Sa.B.iFirmTable _))))]) (noIt_ok) (by kernel_rfl) rfl ((e_slices_ContainsFunc_FirmTable_Fimpl_BoardOf_1_r N _ _ K).trans h)
  · cases h
/-! ### loop.example/g00038/impl.ywordAt -/
abbrev sl_impl_ywordAt : SlotT := []
abbrev J_impl_ywordAt : JT := jn [] []
noncomputable def O_impl_ywordAt (N : Nat) : Orc E := noFn
theorem O_impl_ywordAt_ok (N : Nat) : OrcOk (O_impl_ywordAt N) := noFn_ok
def g_impl_ywordAt (N : Nat) {R : Type} (s : ByteArray) (n : Int) (k : Int → Option R) : Option R :=
  (cond ((decide (((0 : Int) ≤ n))) && (decide ((n < (((ByteArray.size s) : Nat) : Int)))))
  (cond ((decide (((0 : Int) ≤ (Go.IntKind.wrap Go.IntKind.i64 (n + (1 : Int)))))) && (decide (((Go.IntKind.wrap Go.IntKind.i64 (n + (1 : Int))) < (((ByteArray.size s) : Nat) : Int)))))
    (cond ((decide (((0 : Int) ≤ (Go.IntKind.wrap Go.IntKind.i64 (n + (2 : Int)))))) && (decide (((Go.IntKind.wrap Go.IntKind.i64 (n + (2 : Int))) < (((ByteArray.size s) : Nat) : Int)))))
      (cond ((decide (((0 : Int) ≤ (Go.IntKind.wrap Go.IntKind.i64 (n + (3 : Int)))))) && (decide (((Go.IntKind.wrap Go.IntKind.i64 (n + (3 : Int))) < (((ByteArray.size s) : Nat) : Int)))))
        (k (Go.IntKind.wrap Go.IntKind.i64 (((BitVec.toNat ((BitVec.ofInt 64 (Go.IntKind.wrap Go.IntKind.i64 (((BitVec.toNat ((BitVec.ofInt 64 (Go.IntKind.wrap Go.IntKind.i64 (((BitVec.toNat ((BitVec.ofInt 64 (Go.IntKind.wrap Go.IntKind.i64 (Go.Eng.bt s (Int.toNat n)))) ||| (BitVec.ofInt 64 (Go.IntKind.wrap Go.IntKind.i64 ((Go.IntKind.wrap Go.IntKind.i64 (Go.Eng.bt s (Int.toNat (Go.IntKind.wrap Go.IntKind.i64 (n + (1 : Int)))))) * (256 : Int)))))) : Nat) : Int))) ||| (BitVec.ofInt 64 (Go.IntKind.wrap Go.IntKind.i64 ((Go.IntKind.wrap Go.IntKind.i64 (Go.Eng.bt s (Int.toNat (Go.IntKind.wrap Go.IntKind.i64 (n + (2 : Int)))))) * (65536 : Int)))))) : Nat) : Int))) ||| (BitVec.ofInt 64 (Go.IntKind.wrap Go.IntKind.i64 ((Go.IntKind.wrap Go.IntKind.i64 (Go.Eng.bt s (Int.toNat (Go.IntKind.wrap Go.IntKind.i64 (n + (3 : Int)))))) * (16777216 : Int)))))) : Nat) : Int)))
        none)
      none)
    none)
  none)
theorem e_impl_ywordAt (N : Nat) {R : Type} (s : ByteArray) (n : Int) (K : AV → Hp E → Option R) :
    runFnI (E := E) (O_impl_ywordAt N) (noIt) sl_impl_ywordAt J_impl_ywordAt Go.Proofs.Try.f85 [(Go.Eng.AV.sc (Go.Eng.SV.str s)), (Go.Eng.AV.sc (Go.Eng.SV.int Go.IntKind.i64 n))] [] K =
      g_impl_ywordAt N s n (fun n1 => K (Go.Eng.AV.sc (Go.Eng.SV.int Go.IntKind.i64 n1)) []) := by kernel_rfl
def o_impl_ywordAt (N : Nat) {R : Type} (args : List AV) (H : Hp E) (K : AV → Hp E → Option R) : Option R :=
  match args, H with
  | [(Go.Eng.AV.sc (Go.Eng.SV.str s)), (Go.Eng.AV.sc (Go.Eng.SV.int Go.IntKind.i64 n))], [] => g_impl_ywordAt N s n (fun n1 => K (Go.Eng.AV.sc (Go.Eng.SV.int Go.IntKind.i64 n1)) [])
  | _, _ => none
theorem o_impl_ywordAt_ok (N : Nat) : FnOk E 85 (o_impl_ywordAt N) := by
  intro R args H K r h
  unfold o_impl_ywordAt at h
  dsimp only at h
  split at h
  · exact fnB_ok (ids := []) (top := []) ok (O_impl_ywordAt_ok N) (jn_ok _ _) Go.Proofs.Try.func85 (by kernel_rfl) (IT := noIt) (sl := sl_impl_ywordAt) (J := J_impl_ywordAt) (K := K) (H := []) (noIt_ok) (by kernel_rfl) rfl ((e_impl_ywordAt N _ _ K).trans h)
  · cases h
/-! ### loop.example/g00038/impl.BoardFault -/
abbrev sl_impl_BoardFault_w : SlotT := [(0, ([1, 22, 23, 24], [2]))]
abbrev J_impl_BoardFault_w : JT := jn [(1, [(20, .b)]), (6, [(60, .b)])] []
noncomputable def O_impl_BoardFault_w (N : Nat) : Orc E := addFn 96 (o_impl_yin N) (noFn)
theorem O_impl_BoardFault_w_ok (N : Nat) : OrcOk (O_impl_BoardFault_w N) := addFn_ok (o_impl_yin_ok N) (noFn_ok)
def s_impl_BoardFault_w_0 (N : Nat) {R : Type} (b3 : Bool) (n2 : Int) (l1 : List Go.Sa.Device) (n4 : Int) (n5 : Int) (b4 : Bool) (n3 : Int) (ag : Int → Option R)  (kR : Option R) (kN : Option R) : Option R :=
  (cond (decide ((n3 < n2)))
  (cond ((decide (((0 : Int) ≤ n3))) && (decide ((n3 < (((List.length l1) : Nat) : Int)))))
    (elemK l1 (Int.toNat n3) fun x =>
      (oK (g_impl_yin N (Go.Sa.Device.fKind x) (1 : Int) (255 : Int) fun b5 =>
        (cond (!b5)
        (some Bool.true)
        (g_impl_yin N (Go.Sa.Device.fPort x) (0 : Int) (2047 : Int) fun b6 =>
          (cond (!b6)
          (some Bool.true)
          (g_impl_yin N (Go.Sa.Device.fLine x) (0 : Int) (6 : Int) fun b7 =>
            (cond (!b7)
            (some Bool.true)
            (cond (decide ((n3 > (0 : Int))))
              (cond ((decide (((0 : Int) ≤ (Go.IntKind.wrap Go.IntKind.i64 (n3 - (1 : Int)))))) && (decide (((Go.IntKind.wrap Go.IntKind.i64 (n3 - (1 : Int))) < (((List.length l1) : Nat) : Int)))))
                (elemK l1 (Int.toNat (Go.IntKind.wrap Go.IntKind.i64 (n3 - (1 : Int)))) fun x1 =>
                  (some (decide (((Go.Sa.Device.fPort x1) ≥ (Go.Sa.Device.fPort x))))))
                none)
              (some Bool.false)))))))) fun j1 =>
      (cond j1
      kR
      (ag (Go.IntKind.wrap Go.IntKind.i64 (n3 + (1 : Int)))))))
    none)
  kN)
def l_impl_BoardFault_w_0 (N : Nat) {R : Type} (b3 : Bool) (n2 : Int) (l1 : List Go.Sa.Device) (n4 : Int) (n5 : Int) (b4 : Bool) (kR : Option R) (kN : Option R) : Nat → Int → Option R
  | 0, _ => none
  | f + 1, n3 => s_impl_BoardFault_w_0 N b3 n2 l1 n4 n5 b4 n3 (fun n3 => l_impl_BoardFault_w_0 N b3 n2 l1 n4 n5 b4 kR kN f n3)  kR kN
def c_impl_BoardFault_w_0 (N : Nat) {R : Type} (b3 : Bool) (n2 : Int) (l1 : List Go.Sa.Device) (n4 : Int) (n5 : Int) (b4 : Bool) (n3 : Int) (kR : Option R) (kN : Option R) : Option R := l_impl_BoardFault_w_0 N b3 n2 l1 n4 n5 b4 kR kN N n3
theorem se_impl_BoardFault_w_0 (N : Nat) {R : Type} (b3 : Bool) (n2 : Int) (l1 : List Go.Sa.Device) (n4 : Int) (n5 : Int) (b4 : Bool) (n3 : Int) (AG : List (Option AV) → Hp E → Option R) (KL : Ex → List (Option AV) → Hp E → Option R) :
    iterStep (E := E) (O_impl_BoardFault_w N) (fun {R} => LI (noIt) 1 62 sl_impl_BoardFault_w (R := R)) J_impl_BoardFault_w 1 62 0 [1, 22, 23, 24] [2] (body Go.Proofs.Try.f112 0) AG KL [(Option.some (Go.Eng.AV.sc (Go.Eng.SV.ptr 1 0 0))), (Option.some (Go.Eng.AV.sc (Go.Eng.SV.slc 0 Option.none b3))), (Option.some (Go.Eng.AV.sc (Go.Eng.SV.int Go.IntKind.i64 n2))), (Option.some (Go.Eng.AV.sc (Go.Eng.SV.int Go.IntKind.i64 n3)))] [(Option.some (Go.Eng.HE.mk Bool.false (Go.Eng.HB.rows (Go.Sa.B.iDevice l1)))), (Option.some (Go.Eng.HE.mk Bool.false (Go.Eng.HB.exp [(Go.Eng.SV.int Go.IntKind.i64 n4), (Go.Eng.SV.int Go.IntKind.i64 n5), (Go.Eng.SV.slc 0 Option.none b4)])))] =
      s_impl_BoardFault_w_0 N b3 n2 l1 n4 n5 b4 n3 (fun n3 => AG [(Option.some (Go.Eng.AV.sc (Go.Eng.SV.ptr 1 0 0))), (Option.some (Go.Eng.AV.sc (Go.Eng.SV.slc 0 Option.none b3))), (Option.some (Go.Eng.AV.sc (Go.Eng.SV.int Go.IntKind.i64 n2))), (Option.some (Go.Eng.AV.sc (Go.Eng.SV.int Go.IntKind.i64 n3)))] [(Option.some (Go.Eng.HE.mk Bool.false (Go.Eng.HB.rows (Go.Sa.B.iDevice l1)))), (Option.some (Go.Eng.HE.mk Bool.false (Go.Eng.HB.exp [(Go.Eng.SV.int Go.IntKind.i64 n4), (Go.Eng.SV.int Go.IntKind.i64 n5), (Go.Eng.SV.slc 0 Option.none b4)])))])  (KL Go.Eng.Ex.ret [(Option.some (Go.Eng.AV.sc (Go.Eng.SV.int Go.IntKind.i64 (1 : Int))))] [(Option.some (Go.Eng.HE.mk Bool.false (Go.Eng.HB.rows (Go.Sa.B.iDevice l1))))]) (KL Go.Eng.Ex.normal [Option.none] [(Option.some (Go.Eng.HE.mk Bool.false (Go.Eng.HB.rows (Go.Sa.B.iDevice l1))))]) := by kernel_rfl
theorem le_impl_BoardFault_w_0 (N : Nat) {R : Type} (b3 : Bool) (n2 : Int) (l1 : List Go.Sa.Device) (n4 : Int) (n5 : Int) (b4 : Bool) (KL : Ex → List (Option AV) → Hp E → Option R) : ∀ (f : Nat), ∀ (n3 : Int), iterK (E := E) (O_impl_BoardFault_w N) (fun {R} => LI (noIt) 1 62 sl_impl_BoardFault_w (R := R)) J_impl_BoardFault_w 1 62 0 [1, 22, 23, 24] [2] (body Go.Proofs.Try.f112 0) f [(Option.some (Go.Eng.AV.sc (Go.Eng.SV.ptr 1 0 0))), (Option.some (Go.Eng.AV.sc (Go.Eng.SV.slc 0 Option.none b3))), (Option.some (Go.Eng.AV.sc (Go.Eng.SV.int Go.IntKind.i64 n2))), (Option.some (Go.Eng.AV.sc (Go.Eng.SV.int Go.IntKind.i64 n3)))] [(Option.some (Go.Eng.HE.mk Bool.false (Go.Eng.HB.rows (Go.Sa.B.iDevice l1)))), (Option.some (Go.Eng.HE.mk Bool.false (Go.Eng.HB.exp [(Go.Eng.SV.int Go.IntKind.i64 n4), (Go.Eng.SV.int Go.IntKind.i64 n5), (Go.Eng.SV.slc 0 Option.none b4)])))] KL = l_impl_BoardFault_w_0 N b3 n2 l1 n4 n5 b4 (KL Go.Eng.Ex.ret [(Option.some (Go.Eng.AV.sc (Go.Eng.SV.int Go.IntKind.i64 (1 : Int))))] [(Option.some (Go.Eng.HE.mk Bool.false (Go.Eng.HB.rows (Go.Sa.B.iDevice l1))))]) (KL Go.Eng.Ex.normal [Option.none] [(Option.some (Go.Eng.HE.mk Bool.false (Go.Eng.HB.rows (Go.Sa.B.iDevice l1))))]) f n3 := by
  intro f
  induction f with
  | zero => intros; rfl
  | succ f ih =>
    intro n3
    rw [iterK_succ, se_impl_BoardFault_w_0]
    exact (congrArg (fun z0 => s_impl_BoardFault_w_0 N b3 n2 l1 n4 n5 b4 n3 z0 (KL Go.Eng.Ex.ret [(Option.some (Go.Eng.AV.sc (Go.Eng.SV.int Go.IntKind.i64 (1 : Int))))] [(Option.some (Go.Eng.HE.mk Bool.false (Go.Eng.HB.rows (Go.Sa.B.iDevice l1))))]) (KL Go.Eng.Ex.normal [Option.none] [(Option.some (Go.Eng.HE.mk Bool.false (Go.Eng.HB.rows (Go.Sa.B.iDevice l1))))])) (funext fun n3 => ih n3))
def i_impl_BoardFault_w_0 (N : Nat) {R : Type} (vs : List (Option AV)) (H : Hp E) (KL : Ex → List (Option AV) → Hp E → Option R) : Option R :=
  match vs, H with
  | [(Option.some (Go.Eng.AV.sc (Go.Eng.SV.ptr 1 0 0))), (Option.some (Go.Eng.AV.sc (Go.Eng.SV.slc 0 Option.none b3))), (Option.some (Go.Eng.AV.sc (Go.Eng.SV.int Go.IntKind.i64 n2))), (Option.some (Go.Eng.AV.sc (Go.Eng.SV.int Go.IntKind.i64 n3)))], [(Option.some (Go.Eng.HE.mk Bool.false (Go.Eng.HB.rows (Go.Sa.B.iDevice l1)))), (Option.some (Go.Eng.HE.mk Bool.false (Go.Eng.HB.exp [(Go.Eng.SV.int Go.IntKind.i64 n4), (Go.Eng.SV.int Go.IntKind.i64 n5), (Go.Eng.SV.slc 0 Option.none b4)])))] => c_impl_BoardFault_w_0 N b3 n2 l1 n4 n5 b4 n3 (KL Go.Eng.Ex.ret [(Option.some (Go.Eng.AV.sc (Go.Eng.SV.int Go.IntKind.i64 (1 : Int))))] [(Option.some (Go.Eng.HE.mk Bool.false (Go.Eng.HB.rows (Go.Sa.B.iDevice l1))))]) (KL Go.Eng.Ex.normal [Option.none] [(Option.some (Go.Eng.HE.mk Bool.false (Go.Eng.HB.rows (Go.Sa.B.iDevice l1))))])
  | _, _ => none
noncomputable def IT_impl_BoardFault_w_0 (N : Nat) : Its E := addIt 0 (i_impl_BoardFault_w_0 N) (noIt)
theorem IT_impl_BoardFault_w_0_ok (N : Nat) : ItOk (IT_impl_BoardFault_w_0 N) 1 62 sl_impl_BoardFault_w (lsB Go.Proofs.Try.f112 [0]) :=
  addItB_ok (inner := []) ok (O_impl_BoardFault_w_ok N) (jn_ok _ _) (noIt_ok) rfl (by kernel_rfl) rfl fun vs H KL r h => by
    unfold i_impl_BoardFault_w_0 at h
    split at h
    · exact ⟨_, (le_impl_BoardFault_w_0 N _ _ _ _ _ _ KL N _).trans h⟩
    · cases h
def g_impl_BoardFault_w (N : Nat) {R : Type} (n : Int) (n1 : Int) (b : Bool) (l : List Go.Sa.Device) (k : Int → Option R) : Option R :=
  (oK (g_impl_yin N n (2 : Int) (256 : Int) fun b1 =>
    (cond (!b1)
    (some Bool.true)
    (g_impl_yin N n1 (1 : Int) (8 : Int) fun b2 =>
      (cond (!b2)
      (some Bool.true)
      (some (decide (((((List.length l) : Nat) : Int) > (16 : Int))))))))) fun j =>
  (cond j
  (k (1 : Int))
  (c_impl_BoardFault_w_0 N b (((List.length l) : Nat) : Int) l n n1 b (0 : Int) (
    (k (1 : Int))) (
    (k (0 : Int))))))
theorem e_impl_BoardFault_w (N : Nat) {R : Type} (n : Int) (n1 : Int) (b : Bool) (l : List Go.Sa.Device) (K : AV → Hp E → Option R) :
    runFnI (E := E) (O_impl_BoardFault_w N) (IT_impl_BoardFault_w_0 N) sl_impl_BoardFault_w J_impl_BoardFault_w Go.Proofs.Try.f112 [(Go.Eng.AV.agg [(Go.Eng.SV.int Go.IntKind.i64 n), (Go.Eng.SV.int Go.IntKind.i64 n1), (Go.Eng.SV.slc 0 Option.none b)])] [(Option.some (Go.Eng.HE.mk Bool.false (Go.Eng.HB.rows (Go.Sa.B.iDevice l))))] K =
      g_impl_BoardFault_w N n n1 b l (fun n6 => K (Go.Eng.AV.sc (Go.Eng.SV.int Go.IntKind.i64 n6)) [(Option.some (Go.Eng.HE.mk Bool.false (Go.Eng.HB.rows (Go.Sa.B.iDevice l))))]) := by kernel_rfl
def o_impl_BoardFault_w (N : Nat) {R : Type} (args : List AV) (H : Hp E) (K : AV → Hp E → Option R) : Option R :=
  match args, H with
  | [(Go.Eng.AV.agg [(Go.Eng.SV.int Go.IntKind.i64 n), (Go.Eng.SV.int Go.IntKind.i64 n1), (Go.Eng.SV.slc 0 Option.none b)])], [(Option.some (Go.Eng.HE.mk Bool.false (Go.Eng.HB.rows (Go.Sa.B.iDevice l))))] => g_impl_BoardFault_w N n n1 b l (fun n6 => K (Go.Eng.AV.sc (Go.Eng.SV.int Go.IntKind.i64 n6)) [(Option.some (Go.Eng.HE.mk Bool.false (Go.Eng.HB.rows (Go.Sa.B.iDevice l))))])
  | _, _ => none
theorem o_impl_BoardFault_w_ok (N : Nat) : FnOk E 112 (o_impl_BoardFault_w N) := by
  intro R args H K r h
  unfold o_impl_BoardFault_w at h
  dsimp only at h
  split at h
  · exact fnB_ok (ids := [0]) (top := [0]) ok (O_impl_BoardFault_w_ok N) (jn_ok _ _) Go.Proofs.Try.func112 (by kernel_rfl) (IT := IT_impl_BoardFault_w_0 N) (sl := sl_impl_BoardFault_w) (J := J_impl_BoardFault_w) (K := K) (H := [(Option.some (Go.Eng.HE.mk Bool.false (Go.Eng.HB.rows (Go.Sa.B.iDevice _))))]) (IT_impl_BoardFault_w_0_ok N) (by kernel_rfl) rfl ((e_impl_BoardFault_w N _ _ _ _ K).trans h)
  · cases h
/-! ### loop.example/g00038/impl.PutWord -/
abbrev sl_impl_PutWord : SlotT := []
abbrev J_impl_PutWord : JT := jn [] []
noncomputable def O_impl_PutWord (N : Nat) : Orc E := noFn
theorem O_impl_PutWord_ok (N : Nat) : OrcOk (O_impl_PutWord N) := noFn_ok
def g_impl_PutWord (N : Nat) {R : Type} (n : Int) (k : ByteArray → Option R) : Option R :=
  (k (Go.Eng.toBytes (Go.Eng.seg [(Go.IntKind.wrap Go.IntKind.u8 (Go.IntKind.wrap Go.IntKind.u32 n)), (Go.IntKind.wrap Go.IntKind.u8 (Int.fdiv (Go.IntKind.wrap Go.IntKind.u32 n) (256 : Int))), (Go.IntKind.wrap Go.IntKind.u8 (Int.fdiv (Go.IntKind.wrap Go.IntKind.u32 n) (65536 : Int))), (Go.IntKind.wrap Go.IntKind.u8 (Int.fdiv (Go.IntKind.wrap Go.IntKind.u32 n) (16777216 : Int)))] 0 (List.length [(Go.IntKind.wrap Go.IntKind.u8 (Go.IntKind.wrap Go.IntKind.u32 n)), (Go.IntKind.wrap Go.IntKind.u8 (Int.fdiv (Go.IntKind.wrap Go.IntKind.u32 n) (256 : Int))), (Go.IntKind.wrap Go.IntKind.u8 (Int.fdiv (Go.IntKind.wrap Go.IntKind.u32 n) (65536 : Int))), (Go.IntKind.wrap Go.IntKind.u8 (Int.fdiv (Go.IntKind.wrap Go.IntKind.u32 n) (16777216 : Int)))]))))
theorem e_impl_PutWord (N : Nat) {R : Type} (n : Int) (K : AV → Hp E → Option R) :
    runFnI (E := E) (O_impl_PutWord N) (noIt) sl_impl_PutWord J_impl_PutWord Go.Proofs.Try.f106 [(Go.Eng.AV.sc (Go.Eng.SV.int Go.IntKind.i64 n))] [] K =
      g_impl_PutWord N n (fun s => K (Go.Eng.AV.sc (Go.Eng.SV.str s)) []) := by kernel_rfl
def o_impl_PutWord (N : Nat) {R : Type} (args : List AV) (H : Hp E) (K : AV → Hp E → Option R) : Option R :=
  match args, H with
  | [(Go.Eng.AV.sc (Go.Eng.SV.int Go.IntKind.i64 n))], [] => g_impl_PutWord N n (fun s => K (Go.Eng.AV.sc (Go.Eng.SV.str s)) [])
  | _, _ => none
theorem o_impl_PutWord_ok (N : Nat) : FnOk E 106 (o_impl_PutWord N) := by
  intro R args H K r h
  unfold o_impl_PutWord at h
  dsimp only at h
  split at h
  · exact fnB_ok (ids := []) (top := []) ok (O_impl_PutWord_ok N) (jn_ok _ _) Go.Proofs.Try.func106 (by kernel_rfl) (IT := noIt) (sl := sl_impl_PutWord) (J := J_impl_PutWord) (K := K) (H := []) (noIt_ok) (by kernel_rfl) rfl ((e_impl_PutWord N _ K).trans h)
  · cases h
/-! ### loop.example/g00038/impl.TablesOf -/
abbrev sl_impl_TablesOf_w : SlotT := [(0, ([1, 3, 10, 11, 12], [1, 3]))]
abbrev J_impl_TablesOf_w : JT := jn [] []
noncomputable def O_impl_TablesOf_w (N : Nat) : Orc E := addFn 106 (o_impl_PutWord N) (addFn 112 (o_impl_BoardFault_w N) (noFn))
theorem O_impl_TablesOf_w_ok (N : Nat) : OrcOk (O_impl_TablesOf_w N) := addFn_ok (o_impl_PutWord_ok N) (addFn_ok (o_impl_BoardFault_w_ok N) (noFn_ok))
def s_impl_TablesOf_w_0 (N : Nat) {R : Type} (b1 : Bool) (n3 : Int) (l1 : List Go.Sa.Device) (n5 : Int) (n6 : Int) (b2 : Bool) (s : ByteArray) (n4 : Int) (ag : ByteArray → Int → Option R)  (kN : ByteArray → Option R) : Option R :=
  (cond (decide ((n4 < n3)))
  (cond ((decide (((0 : Int) ≤ n4))) && (decide ((n4 < (((List.length l1) : Nat) : Int)))))
    (elemK l1 (Int.toNat n4) fun x =>
      (g_impl_PutWord N (Go.IntKind.wrap Go.IntKind.i64 ((Go.IntKind.wrap Go.IntKind.i64 ((Go.IntKind.wrap Go.IntKind.i64 ((Go.Sa.Device.fKind x) * (16777216 : Int))) + (Go.IntKind.wrap Go.IntKind.i64 ((Go.Sa.Device.fLine x) * (65536 : Int))))) + (Go.Sa.Device.fPort x))) fun s1 =>
      (cond (Nat.ble ((ByteArray.size s) + (ByteArray.size s1)) 9223372036854775807)
      (ag (s ++ s1) (Go.IntKind.wrap Go.IntKind.i64 (n4 + (1 : Int))))
      none)))
    none)
  (kN s))
def l_impl_TablesOf_w_0 (N : Nat) {R : Type} (b1 : Bool) (n3 : Int) (l1 : List Go.Sa.Device) (n5 : Int) (n6 : Int) (b2 : Bool) (kN : ByteArray → Option R) : Nat → ByteArray → Int → Option R
  | 0, _, _ => none
  | f + 1, s, n4 => s_impl_TablesOf_w_0 N b1 n3 l1 n5 n6 b2 s n4 (fun s n4 => l_impl_TablesOf_w_0 N b1 n3 l1 n5 n6 b2 kN f s n4)  kN
def c_impl_TablesOf_w_0 (N : Nat) {R : Type} (b1 : Bool) (n3 : Int) (l1 : List Go.Sa.Device) (n5 : Int) (n6 : Int) (b2 : Bool) (s : ByteArray) (n4 : Int) (kN : ByteArray → Option R) : Option R := l_impl_TablesOf_w_0 N b1 n3 l1 n5 n6 b2 kN N s n4
theorem se_impl_TablesOf_w_0 (N : Nat) {R : Type} (b1 : Bool) (n3 : Int) (l1 : List Go.Sa.Device) (n5 : Int) (n6 : Int) (b2 : Bool) (s : ByteArray) (n4 : Int) (AG : List (Option AV) → Hp E → Option R) (KL : Ex → List (Option AV) → Hp E → Option R) :
    iterStep (E := E) (O_impl_TablesOf_w N) (fun {R} => LI (noIt) 1 41 sl_impl_TablesOf_w (R := R)) J_impl_TablesOf_w 1 41 0 [1, 3, 10, 11, 12] [1, 3] (body Go.Proofs.Try.f44 0) AG KL [(Option.some (Go.Eng.AV.sc (Go.Eng.SV.ptr 1 0 0))), (Option.some (Go.Eng.AV.sc (Go.Eng.SV.str s))), (Option.some (Go.Eng.AV.sc (Go.Eng.SV.slc 0 Option.none b1))), (Option.some (Go.Eng.AV.sc (Go.Eng.SV.int Go.IntKind.i64 n3))), (Option.some (Go.Eng.AV.sc (Go.Eng.SV.int Go.IntKind.i64 n4)))] [(Option.some (Go.Eng.HE.mk Bool.false (Go.Eng.HB.rows (Go.Sa.B.iDevice l1)))), (Option.some (Go.Eng.HE.mk Bool.false (Go.Eng.HB.exp [(Go.Eng.SV.int Go.IntKind.i64 n5), (Go.Eng.SV.int Go.IntKind.i64 n6), (Go.Eng.SV.slc 0 Option.none b2)])))] =
      s_impl_TablesOf_w_0 N b1 n3 l1 n5 n6 b2 s n4 (fun s n4 => AG [(Option.some (Go.Eng.AV.sc (Go.Eng.SV.ptr 1 0 0))), (Option.some (Go.Eng.AV.sc (Go.Eng.SV.str s))), (Option.some (Go.Eng.AV.sc (Go.Eng.SV.slc 0 Option.none b1))), (Option.some (Go.Eng.AV.sc (Go.Eng.SV.int Go.IntKind.i64 n3))), (Option.some (Go.Eng.AV.sc (Go.Eng.SV.int Go.IntKind.i64 n4)))] [(Option.some (Go.Eng.HE.mk Bool.false (Go.Eng.HB.rows (Go.Sa.B.iDevice l1)))), (Option.some (Go.Eng.HE.mk Bool.false (Go.Eng.HB.exp [(Go.Eng.SV.int Go.IntKind.i64 n5), (Go.Eng.SV.int Go.IntKind.i64 n6), (Go.Eng.SV.slc 0 Option.none b2)])))])  (fun s5 => KL Go.Eng.Ex.normal [(Option.some (Go.Eng.AV.sc (Go.Eng.SV.ptr 1 0 0))), (Option.some (Go.Eng.AV.sc (Go.Eng.SV.str s5)))] [(Option.some (Go.Eng.HE.mk Bool.false (Go.Eng.HB.rows (Go.Sa.B.iDevice l1)))), (Option.some (Go.Eng.HE.mk Bool.false (Go.Eng.HB.exp [(Go.Eng.SV.int Go.IntKind.i64 n5), (Go.Eng.SV.int Go.IntKind.i64 n6), (Go.Eng.SV.slc 0 Option.none b2)])))]) := by kernel_rfl
theorem le_impl_TablesOf_w_0 (N : Nat) {R : Type} (b1 : Bool) (n3 : Int) (l1 : List Go.Sa.Device) (n5 : Int) (n6 : Int) (b2 : Bool) (KL : Ex → List (Option AV) → Hp E → Option R) : ∀ (f : Nat), ∀ (s : ByteArray) (n4 : Int), iterK (E := E) (O_impl_TablesOf_w N) (fun {R} => LI (noIt) 1 41 sl_impl_TablesOf_w (R := R)) J_impl_TablesOf_w 1 41 0 [1, 3, 10, 11, 12] [1, 3] (body Go.Proofs.Try.f44 0) f [(Option.some (Go.Eng.AV.sc (Go.Eng.SV.ptr 1 0 0))), (Option.some (Go.Eng.AV.sc (Go.Eng.SV.str s))), (Option.some (Go.Eng.AV.sc (Go.Eng.SV.slc 0 Option.none b1))), (Option.some (Go.Eng.AV.sc (Go.Eng.SV.int Go.IntKind.i64 n3))), (Option.some (Go.Eng.AV.sc (Go.Eng.SV.int Go.IntKind.i64 n4)))] [(Option.some (Go.Eng.HE.mk Bool.false (Go.Eng.HB.rows (Go.Sa.B.iDevice l1)))), (Option.some (Go.Eng.HE.mk Bool.false (Go.Eng.HB.exp [(Go.Eng.SV.int Go.IntKind.i64 n5), (Go.Eng.SV.int Go.IntKind.i64 n6), (Go.Eng.SV.slc 0 Option.none b2)])))] KL = l_impl_TablesOf_w_0 N b1 n3 l1 n5 n6 b2 (fun s5 => KL Go.Eng.Ex.normal [(Option.some (Go.Eng.AV.sc (Go.Eng.SV.ptr 1 0 0))), (Option.some (Go.Eng.AV.sc (Go.Eng.SV.str s5)))] [(Option.some (Go.Eng.HE.mk Bool.false (Go.Eng.HB.rows (Go.Sa.B.iDevice l1)))), (Option.some (Go.Eng.HE.mk Bool.false (Go.Eng.HB.exp [(Go.Eng.SV.int Go.IntKind.i64 n5), (Go.Eng.SV.int Go.IntKind.i64 n6), (Go.Eng.SV.slc 0 Option.none b2)])))]) f s n4 := by
  intro f
  induction f with
  | zero => intros; rfl
  | succ f ih =>
    intro s n4
    rw [iterK_succ, se_impl_TablesOf_w_0]
    exact (congrArg (fun z0 => s_impl_TablesOf_w_0 N b1 n3 l1 n5 n6 b2 s n4 z0 (fun s5 => KL Go.Eng.Ex.normal [(Option.some (Go.Eng.AV.sc (Go.Eng.SV.ptr 1 0 0))), (Option.some (Go.Eng.AV.sc (Go.Eng.SV.str s5)))] [(Option.some (Go.Eng.HE.mk Bool.false (Go.Eng.HB.rows (Go.Sa.B.iDevice l1)))), (Option.some (Go.Eng.HE.mk Bool.false (Go.Eng.HB.exp [(Go.Eng.SV.int Go.IntKind.i64 n5), (Go.Eng.SV.int Go.IntKind.i64 n6), (Go.Eng.SV.slc 0 Option.none b2)])))])) (funext fun s => funext fun n4 => ih s n4))
def i_impl_TablesOf_w_0 (N : Nat) {R : Type} (vs : List (Option AV)) (H : Hp E) (KL : Ex → List (Option AV) → Hp E → Option R) : Option R :=
  match vs, H with
  | [(Option.some (Go.Eng.AV.sc (Go.Eng.SV.ptr 1 0 0))), (Option.some (Go.Eng.AV.sc (Go.Eng.SV.str s))), (Option.some (Go.Eng.AV.sc (Go.Eng.SV.slc 0 Option.none b1))), (Option.some (Go.Eng.AV.sc (Go.Eng.SV.int Go.IntKind.i64 n3))), (Option.some (Go.Eng.AV.sc (Go.Eng.SV.int Go.IntKind.i64 n4)))], [(Option.some (Go.Eng.HE.mk Bool.false (Go.Eng.HB.rows (Go.Sa.B.iDevice l1)))), (Option.some (Go.Eng.HE.mk Bool.false (Go.Eng.HB.exp [(Go.Eng.SV.int Go.IntKind.i64 n5), (Go.Eng.SV.int Go.IntKind.i64 n6), (Go.Eng.SV.slc 0 Option.none b2)])))] => c_impl_TablesOf_w_0 N b1 n3 l1 n5 n6 b2 s n4 (fun s6 => KL Go.Eng.Ex.normal [(Option.some (Go.Eng.AV.sc (Go.Eng.SV.ptr 1 0 0))), (Option.some (Go.Eng.AV.sc (Go.Eng.SV.str s6)))] [(Option.some (Go.Eng.HE.mk Bool.false (Go.Eng.HB.rows (Go.Sa.B.iDevice l1)))), (Option.some (Go.Eng.HE.mk Bool.false (Go.Eng.HB.exp [(Go.Eng.SV.int Go.IntKind.i64 n5), (Go.Eng.SV.int Go.IntKind.i64 n6), (Go.Eng.SV.slc 0 Option.none b2)])))])
  | _, _ => none
noncomputable def IT_impl_TablesOf_w_0 (N : Nat) : Its E := addIt 0 (i_impl_TablesOf_w_0 N) (noIt)
theorem IT_impl_TablesOf_w_0_ok (N : Nat) : ItOk (IT_impl_TablesOf_w_0 N) 1 41 sl_impl_TablesOf_w (lsB Go.Proofs.Try.f44 [0]) :=
  addItB_ok (inner := []) ok (O_impl_TablesOf_w_ok N) (jn_ok _ _) (noIt_ok) rfl (by kernel_rfl) rfl fun vs H KL r h => by
    unfold i_impl_TablesOf_w_0 at h
    split at h
    · exact ⟨_, (le_impl_TablesOf_w_0 N _ _ _ _ _ _ KL N _ _).trans h⟩
    · cases h
def g_impl_TablesOf_w (N : Nat) {R : Type} (n : Int) (n1 : Int) (b : Bool) (l : List Go.Sa.Device) (k : Bool → (List Go.Sa.FirmTable) → Option R) : Option R :=
  (g_impl_BoardFault_w N n n1 b l fun n2 =>
  (cond (n2 != (0 : Int))
  (k Bool.true [])
  (c_impl_TablesOf_w_0 N b (((List.length l) : Nat) : Int) l n n1 b (ByteArray.mk (List.toArray [])) (0 : Int) fun s2 =>
    (g_impl_PutWord N n fun s3 =>
    (g_impl_PutWord N n1 fun s4 =>
    (k Bool.false [(Go.Sa.FirmTable.mk (ByteArray.mk (List.toArray [(77 : UInt8), (69 : UInt8), (77 : UInt8), (79 : UInt8)])) (1 : Int) s3), (Go.Sa.FirmTable.mk (ByteArray.mk (List.toArray [(67 : UInt8), (80 : UInt8), (85 : UInt8), (83 : UInt8)])) (1 : Int) s4), (Go.Sa.FirmTable.mk (ByteArray.mk (List.toArray [(68 : UInt8), (69 : UInt8), (86 : UInt8), (83 : UInt8)])) (1 : Int) s2)]))))))
theorem e_impl_TablesOf_w (N : Nat) {R : Type} (n : Int) (n1 : Int) (b : Bool) (l : List Go.Sa.Device) (K : AV → Hp E → Option R) :
    runFnI (E := E) (O_impl_TablesOf_w N) (IT_impl_TablesOf_w_0 N) sl_impl_TablesOf_w J_impl_TablesOf_w Go.Proofs.Try.f44 [(Go.Eng.AV.agg [(Go.Eng.SV.int Go.IntKind.i64 n), (Go.Eng.SV.int Go.IntKind.i64 n1), (Go.Eng.SV.slc 0 Option.none b)])] [(Option.some (Go.Eng.HE.mk Bool.false (Go.Eng.HB.rows (Go.Sa.B.iDevice l))))] K =
      g_impl_TablesOf_w N n n1 b l (fun b3 l2 => K (Go.Eng.AV.sc (Go.Eng.SV.slc 1 Option.none b3)) [(Option.some (Go.Eng.HE.mk Bool.false (Go.Eng.HB.rows (Go.Sa.B.iDevice l)))), (Option.some (Go.Eng.HE.mk Bool.false (Go.Eng.HB.rows (Go.Sa.B.iFirmTable l2))))]) := by kernel_rfl
def o_impl_TablesOf_w (N : Nat) {R : Type} (args : List AV) (H : Hp E) (K : AV → Hp E → Option R) : Option R :=
  match args, H with
  | [(Go.Eng.AV.agg [(Go.Eng.SV.int Go.IntKind.i64 n), (Go.Eng.SV.int Go.IntKind.i64 n1), (Go.Eng.SV.slc 0 Option.none b)])], [(Option.some (Go.Eng.HE.mk Bool.false (Go.Eng.HB.rows (Go.Sa.B.iDevice l))))] => g_impl_TablesOf_w N n n1 b l (fun b3 l2 => K (Go.Eng.AV.sc (Go.Eng.SV.slc 1 Option.none b3)) [(Option.some (Go.Eng.HE.mk Bool.false (Go.Eng.HB.rows (Go.Sa.B.iDevice l)))), (Option.some (Go.Eng.HE.mk Bool.false (Go.Eng.HB.rows (Go.Sa.B.iFirmTable l2))))])
  | _, _ => none
theorem o_impl_TablesOf_w_ok (N : Nat) : FnOk E 44 (o_impl_TablesOf_w N) := by
  intro R args H K r h
  unfold o_impl_TablesOf_w at h
  dsimp only at h
  split at h
  · exact fnB_ok (ids := [0]) (top := [0]) ok (O_impl_TablesOf_w_ok N) (jn_ok _ _) Go.Proofs.Try.func44 (by kernel_rfl) (IT := IT_impl_TablesOf_w_0 N) (sl := sl_impl_TablesOf_w) (J := J_impl_TablesOf_w) (K := K) (H := [(Option.some (Go.Eng.HE.mk Bool.false (Go.Eng.HB.rows (Go.Sa.B.iDevice _))))]) (IT_impl_TablesOf_w_0_ok N) (by kernel_rfl) rfl ((e_impl_TablesOf_w N _ _ _ _ K).trans h)
  · cases h
end Go.Sa
