import Derived.Test.YtnopbegjbbbdhaaSpec
import Derived.Test.YtnopbegjbbbdhaaPLb
import Derived.Test.YtnopbegjbbbdhaaW0
set_option linter.all false
namespace Go.Sa
open Go Go.Eng Go.Proofs
set_option maxRecDepth 100000
/-! ### loop.example/g00038/laws.markText -/
abbrev sl_laws_markText : SlotT := [(0, ([0, 3], [3]))]
abbrev J_laws_markText : JT := jn [] [] []
noncomputable def O_laws_markText (N : Nat) : Orc E := noFn
theorem O_laws_markText_ok (N : Nat) : OrcOk (O_laws_markText N) := noFn_ok
def s_laws_markText_0 (N : Nat) {R : Type}  (n1 : Int) (s : ByteArray) (ag : Int → ByteArray → Option R)  (kN : ByteArray → Option R) : Option R :=
  (cond (decide ((n1 > (0 : Int))))
  (cond (Nat.ble ((ByteArray.size (Go.Eng.toBytes (Go.Eng.seg [(Go.IntKind.wrap Go.IntKind.u8 (Go.IntKind.wrap Go.IntKind.i64 ((48 : Int) + (Int.tmod n1 (10 : Int)))))] 0 (List.length [(Go.IntKind.wrap Go.IntKind.u8 (Go.IntKind.wrap Go.IntKind.i64 ((48 : Int) + (Int.tmod n1 (10 : Int)))))])))) + (ByteArray.size s)) 9223372036854775807)
    (ag (Go.IntKind.wrap Go.IntKind.i64 (Int.tdiv n1 (10 : Int))) ((Go.Eng.toBytes (Go.Eng.seg [(Go.IntKind.wrap Go.IntKind.u8 (Go.IntKind.wrap Go.IntKind.i64 ((48 : Int) + (Int.tmod n1 (10 : Int)))))] 0 (List.length [(Go.IntKind.wrap Go.IntKind.u8 (Go.IntKind.wrap Go.IntKind.i64 ((48 : Int) + (Int.tmod n1 (10 : Int)))))]))) ++ s))
    none)
  (kN s))
def l_laws_markText_0 (N : Nat) {R : Type}  (kN : ByteArray → Option R) : Nat → Int → ByteArray → Option R
  | 0, _, _ => none
  | f + 1, n1, s => s_laws_markText_0 N  n1 s (fun n1 s => l_laws_markText_0 N  kN f n1 s)  kN
def c_laws_markText_0 (N : Nat) {R : Type}  (n1 : Int) (s : ByteArray) (kN : ByteArray → Option R) : Option R := l_laws_markText_0 N  kN N n1 s
theorem se_laws_markText_0 (N : Nat) {R : Type}  (n1 : Int) (s : ByteArray) (AG : List (Option AV) → Hp E → Option R) (KL : Ex → List (Option AV) → Hp E → Option R) :
    iterStep (E := E) (O_laws_markText N) (fun {R} => LI (noIt) 0 20 sl_laws_markText (R := R)) J_laws_markText 0 20 0 [0, 3] [3] (body Go.Proofs.Try.f89 0) AG KL [(Option.some (Go.Eng.AV.sc (Go.Eng.SV.int Go.IntKind.i64 n1))), (Option.some (Go.Eng.AV.sc (Go.Eng.SV.str s)))] [] =
      s_laws_markText_0 N  n1 s (fun n1 s => AG [(Option.some (Go.Eng.AV.sc (Go.Eng.SV.int Go.IntKind.i64 n1))), (Option.some (Go.Eng.AV.sc (Go.Eng.SV.str s)))] [])  (fun s3 => KL Go.Eng.Ex.normal [(Option.some (Go.Eng.AV.sc (Go.Eng.SV.str s3)))] []) := by kernel_rfl
theorem le_laws_markText_0 (N : Nat) {R : Type}  (KL : Ex → List (Option AV) → Hp E → Option R) : ∀ (f : Nat), ∀ (n1 : Int) (s : ByteArray), iterK (E := E) (O_laws_markText N) (fun {R} => LI (noIt) 0 20 sl_laws_markText (R := R)) J_laws_markText 0 20 0 [0, 3] [3] (body Go.Proofs.Try.f89 0) f [(Option.some (Go.Eng.AV.sc (Go.Eng.SV.int Go.IntKind.i64 n1))), (Option.some (Go.Eng.AV.sc (Go.Eng.SV.str s)))] [] KL = l_laws_markText_0 N  (fun s3 => KL Go.Eng.Ex.normal [(Option.some (Go.Eng.AV.sc (Go.Eng.SV.str s3)))] []) f n1 s := by
  intro f
  induction f with
  | zero => intros; rfl
  | succ f ih =>
    intro n1 s
    rw [iterK_succ, se_laws_markText_0]
    exact (congrArg (fun z0 => s_laws_markText_0 N  n1 s z0 (fun s3 => KL Go.Eng.Ex.normal [(Option.some (Go.Eng.AV.sc (Go.Eng.SV.str s3)))] [])) (funext fun n1 => funext fun s => ih n1 s))
def i_laws_markText_0 (N : Nat) {R : Type} (vs : List (Option AV)) (H : Hp E) (KL : Ex → List (Option AV) → Hp E → Option R) : Option R :=
  match vs, H with
  | [(Option.some (Go.Eng.AV.sc (Go.Eng.SV.int Go.IntKind.i64 n1))), (Option.some (Go.Eng.AV.sc (Go.Eng.SV.str s)))], [] => c_laws_markText_0 N  n1 s (fun s4 => KL Go.Eng.Ex.normal [(Option.some (Go.Eng.AV.sc (Go.Eng.SV.str s4)))] [])
  | _, _ => none
noncomputable def IT_laws_markText_0 (N : Nat) : Its E := addIt 0 (i_laws_markText_0 N) (noIt)
theorem IT_laws_markText_0_ok (N : Nat) : ItOk (IT_laws_markText_0 N) 0 20 sl_laws_markText (lsB Go.Proofs.Try.f89 [0]) :=
  addItB_ok (inner := []) ok (O_laws_markText_ok N) (jn_ok _ _ _) (noIt_ok) rfl (by kernel_rfl) rfl fun vs H KL r h => by
    unfold i_laws_markText_0 at h
    split at h
    · exact ⟨_, (le_laws_markText_0 N KL N _ _).trans h⟩
    · cases h
def g_laws_markText (N : Nat) {R : Type} (n : Int) (k : ByteArray → Option R) : Option R :=
  (cond (decide ((n ≤ (0 : Int))))
  (k (ByteArray.mk (List.toArray [(109 : UInt8), (48 : UInt8)])))
  (c_laws_markText_0 N n (ByteArray.mk (List.toArray [])) fun s1 =>
    (cond (Nat.ble (1 + (ByteArray.size s1)) 9223372036854775807)
    (k ((ByteArray.mk (List.toArray [(109 : UInt8)])) ++ s1))
    none)))
theorem e_laws_markText (N : Nat) {R : Type} (n : Int) (K : AV → Hp E → Option R) :
    runFnI (E := E) (O_laws_markText N) (IT_laws_markText_0 N) sl_laws_markText J_laws_markText Go.Proofs.Try.f89 [(Go.Eng.AV.sc (Go.Eng.SV.int Go.IntKind.i64 n))] [] K =
      g_laws_markText N n (fun s2 => K (Go.Eng.AV.sc (Go.Eng.SV.str s2)) []) := by kernel_rfl
def o_laws_markText (N : Nat) {R : Type} (args : List AV) (H : Hp E) (K : AV → Hp E → Option R) : Option R :=
  match args, H with
  | [(Go.Eng.AV.sc (Go.Eng.SV.int Go.IntKind.i64 n))], [] => g_laws_markText N n (fun s2 => K (Go.Eng.AV.sc (Go.Eng.SV.str s2)) [])
  | _, _ => none
theorem o_laws_markText_ok (N : Nat) : FnOk E 89 (o_laws_markText N) := by
  intro R args H K r h
  unfold o_laws_markText at h
  dsimp only at h
  split at h
  · exact fnB_ok (ids := [0]) (top := [0]) ok (O_laws_markText_ok N) (jn_ok _ _ _) Go.Proofs.Try.func89 (by kernel_rfl) (IT := IT_laws_markText_0 N) (sl := sl_laws_markText) (J := J_laws_markText) (K := K) (H := []) (IT_laws_markText_0_ok N) (by kernel_rfl) rfl ((e_laws_markText N _ K).trans h)
  · cases h
/-! ### loop.example/g00038/laws.markFirmTableS -/
abbrev sl_laws_markFirmTableS_w : SlotT := [(0, ([0, 1, 5], [1]))]
abbrev J_laws_markFirmTableS_w : JT := jn [] [] []
noncomputable def O_laws_markFirmTableS_w (N : Nat) : Orc E := addFn 89 (o_laws_markText N) (noFn)
theorem O_laws_markFirmTableS_w_ok (N : Nat) : OrcOk (O_laws_markFirmTableS_w N) := addFn_ok (o_laws_markText_ok N) (noFn_ok)
def s_laws_markFirmTableS_w_0 (N : Nat) {R : Type} (b1 : Bool) (n1 : Int) (n2 : Int) (l1 : List Go.Sa.FirmTable) (ag : Int → Int → (List Go.Sa.FirmTable) → Option R)  (kN : Int → (List Go.Sa.FirmTable) → Option R) : Option R :=
  (cond (decide ((n2 < (((List.length l1) : Nat) : Int))))
  (g_laws_markText N n1 fun s =>
    (cond ((decide (((0 : Int) ≤ n2))) && (decide ((n2 < (((List.length l1) : Nat) : Int)))))
    (elemK l1 (Int.toNat n2) fun x =>
      (cond (Nat.blt (Int.toNat n2) (List.length l1))
      (cond ((decide (((0 : Int) ≤ n2))) && (decide ((n2 < (((List.length (Go.Eng.nset l1 (Int.toNat n2) (Go.Sa.FirmTable.mk s (Go.Sa.FirmTable.fRev x) (Go.Sa.FirmTable.fBody x)))) : Nat) : Int)))))
        (elemK (Go.Eng.nset l1 (Int.toNat n2) (Go.Sa.FirmTable.mk s (Go.Sa.FirmTable.fRev x) (Go.Sa.FirmTable.fBody x))) (Int.toNat n2) fun x1 =>
          (cond (Nat.blt (Int.toNat n2) (List.length (Go.Eng.nset l1 (Int.toNat n2) (Go.Sa.FirmTable.mk s (Go.Sa.FirmTable.fRev x) (Go.Sa.FirmTable.fBody x)))))
          (g_laws_markText N (Go.IntKind.wrap Go.IntKind.i64 ((Go.IntKind.wrap Go.IntKind.i64 (n1 + (1 : Int))) + (1 : Int))) fun s1 =>
            (cond ((decide (((0 : Int) ≤ n2))) && (decide ((n2 < (((List.length (Go.Eng.nset (Go.Eng.nset l1 (Int.toNat n2) (Go.Sa.FirmTable.mk s (Go.Sa.FirmTable.fRev x) (Go.Sa.FirmTable.fBody x))) (Int.toNat n2) (Go.Sa.FirmTable.mk (Go.Sa.FirmTable.fName x1) (Go.IntKind.wrap Go.IntKind.i64 (n1 + (1 : Int))) (Go.Sa.FirmTable.fBody x1)))) : Nat) : Int)))))
            (elemK (Go.Eng.nset (Go.Eng.nset l1 (Int.toNat n2) (Go.Sa.FirmTable.mk s (Go.Sa.FirmTable.fRev x) (Go.Sa.FirmTable.fBody x))) (Int.toNat n2) (Go.Sa.FirmTable.mk (Go.Sa.FirmTable.fName x1) (Go.IntKind.wrap Go.IntKind.i64 (n1 + (1 : Int))) (Go.Sa.FirmTable.fBody x1))) (Int.toNat n2) fun x2 =>
              (cond (Nat.blt (Int.toNat n2) (List.length (Go.Eng.nset (Go.Eng.nset l1 (Int.toNat n2) (Go.Sa.FirmTable.mk s (Go.Sa.FirmTable.fRev x) (Go.Sa.FirmTable.fBody x))) (Int.toNat n2) (Go.Sa.FirmTable.mk (Go.Sa.FirmTable.fName x1) (Go.IntKind.wrap Go.IntKind.i64 (n1 + (1 : Int))) (Go.Sa.FirmTable.fBody x1)))))
              (ag (Go.IntKind.wrap Go.IntKind.i64 ((Go.IntKind.wrap Go.IntKind.i64 ((Go.IntKind.wrap Go.IntKind.i64 (n1 + (1 : Int))) + (1 : Int))) + (1 : Int))) (Go.IntKind.wrap Go.IntKind.i64 (n2 + (1 : Int))) (Go.Eng.nset (Go.Eng.nset (Go.Eng.nset l1 (Int.toNat n2) (Go.Sa.FirmTable.mk s (Go.Sa.FirmTable.fRev x) (Go.Sa.FirmTable.fBody x))) (Int.toNat n2) (Go.Sa.FirmTable.mk (Go.Sa.FirmTable.fName x1) (Go.IntKind.wrap Go.IntKind.i64 (n1 + (1 : Int))) (Go.Sa.FirmTable.fBody x1))) (Int.toNat n2) (Go.Sa.FirmTable.mk (Go.Sa.FirmTable.fName x2) (Go.Sa.FirmTable.fRev x2) s1)))
              none))
            none))
          none))
        none)
      none))
    none))
  (kN n1 l1))
def l_laws_markFirmTableS_w_0 (N : Nat) {R : Type} (b1 : Bool) (kN : Int → (List Go.Sa.FirmTable) → Option R) : Nat → Int → Int → (List Go.Sa.FirmTable) → Option R
  | 0, _, _, _ => none
  | f + 1, n1, n2, l1 => s_laws_markFirmTableS_w_0 N b1 n1 n2 l1 (fun n1 n2 l1 => l_laws_markFirmTableS_w_0 N b1 kN f n1 n2 l1)  kN
def c_laws_markFirmTableS_w_0 (N : Nat) {R : Type} (b1 : Bool) (n1 : Int) (n2 : Int) (l1 : List Go.Sa.FirmTable) (kN : Int → (List Go.Sa.FirmTable) → Option R) : Option R := l_laws_markFirmTableS_w_0 N b1 kN N n1 n2 l1
theorem se_laws_markFirmTableS_w_0 (N : Nat) {R : Type} (b1 : Bool) (n1 : Int) (n2 : Int) (l1 : List Go.Sa.FirmTable) (AG : List (Option AV) → Hp E → Option R) (KL : Ex → List (Option AV) → Hp E → Option R) :
    iterStep (E := E) (O_laws_markFirmTableS_w N) (fun {R} => LI (noIt) 1 36 sl_laws_markFirmTableS_w (R := R)) J_laws_markFirmTableS_w 1 36 0 [0, 1, 5] [1] (body Go.Proofs.Try.f31 0) AG KL [(Option.some (Go.Eng.AV.sc (Go.Eng.SV.slc 0 Option.none b1))), (Option.some (Go.Eng.AV.sc (Go.Eng.SV.int Go.IntKind.i64 n1))), (Option.some (Go.Eng.AV.sc (Go.Eng.SV.int Go.IntKind.i64 n2)))] [(Option.some (Go.Eng.HE.mk Bool.false (Go.Eng.HB.rows (Go.Sa.B.iFirmTable l1))))] =
      s_laws_markFirmTableS_w_0 N b1 n1 n2 l1 (fun n1 n2 l1 => AG [(Option.some (Go.Eng.AV.sc (Go.Eng.SV.slc 0 Option.none b1))), (Option.some (Go.Eng.AV.sc (Go.Eng.SV.int Go.IntKind.i64 n1))), (Option.some (Go.Eng.AV.sc (Go.Eng.SV.int Go.IntKind.i64 n2)))] [(Option.some (Go.Eng.HE.mk Bool.false (Go.Eng.HB.rows (Go.Sa.B.iFirmTable l1))))])  (fun n5 l4 => KL Go.Eng.Ex.normal [(Option.some (Go.Eng.AV.sc (Go.Eng.SV.int Go.IntKind.i64 n5)))] [(Option.some (Go.Eng.HE.mk Bool.false (Go.Eng.HB.rows (Go.Sa.B.iFirmTable l4))))]) := by kernel_rfl
theorem le_laws_markFirmTableS_w_0 (N : Nat) {R : Type} (b1 : Bool) (KL : Ex → List (Option AV) → Hp E → Option R) : ∀ (f : Nat), ∀ (n1 : Int) (n2 : Int) (l1 : List Go.Sa.FirmTable), iterK (E := E) (O_laws_markFirmTableS_w N) (fun {R} => LI (noIt) 1 36 sl_laws_markFirmTableS_w (R := R)) J_laws_markFirmTableS_w 1 36 0 [0, 1, 5] [1] (body Go.Proofs.Try.f31 0) f [(Option.some (Go.Eng.AV.sc (Go.Eng.SV.slc 0 Option.none b1))), (Option.some (Go.Eng.AV.sc (Go.Eng.SV.int Go.IntKind.i64 n1))), (Option.some (Go.Eng.AV.sc (Go.Eng.SV.int Go.IntKind.i64 n2)))] [(Option.some (Go.Eng.HE.mk Bool.false (Go.Eng.HB.rows (Go.Sa.B.iFirmTable l1))))] KL = l_laws_markFirmTableS_w_0 N b1 (fun n5 l4 => KL Go.Eng.Ex.normal [(Option.some (Go.Eng.AV.sc (Go.Eng.SV.int Go.IntKind.i64 n5)))] [(Option.some (Go.Eng.HE.mk Bool.false (Go.Eng.HB.rows (Go.Sa.B.iFirmTable l4))))]) f n1 n2 l1 := by
  intro f
  induction f with
  | zero => intros; rfl
  | succ f ih =>
    intro n1 n2 l1
    rw [iterK_succ, se_laws_markFirmTableS_w_0]
    exact (congrArg (fun z0 => s_laws_markFirmTableS_w_0 N b1 n1 n2 l1 z0 (fun n5 l4 => KL Go.Eng.Ex.normal [(Option.some (Go.Eng.AV.sc (Go.Eng.SV.int Go.IntKind.i64 n5)))] [(Option.some (Go.Eng.HE.mk Bool.false (Go.Eng.HB.rows (Go.Sa.B.iFirmTable l4))))])) (funext fun n1 => funext fun n2 => funext fun l1 => ih n1 n2 l1))
def i_laws_markFirmTableS_w_0 (N : Nat) {R : Type} (vs : List (Option AV)) (H : Hp E) (KL : Ex → List (Option AV) → Hp E → Option R) : Option R :=
  match vs, H with
  | [(Option.some (Go.Eng.AV.sc (Go.Eng.SV.slc 0 Option.none b1))), (Option.some (Go.Eng.AV.sc (Go.Eng.SV.int Go.IntKind.i64 n1))), (Option.some (Go.Eng.AV.sc (Go.Eng.SV.int Go.IntKind.i64 n2)))], [(Option.some (Go.Eng.HE.mk Bool.false (Go.Eng.HB.rows (Go.Sa.B.iFirmTable l1))))] => c_laws_markFirmTableS_w_0 N b1 n1 n2 l1 (fun n6 l5 => KL Go.Eng.Ex.normal [(Option.some (Go.Eng.AV.sc (Go.Eng.SV.int Go.IntKind.i64 n6)))] [(Option.some (Go.Eng.HE.mk Bool.false (Go.Eng.HB.rows (Go.Sa.B.iFirmTable l5))))])
  | _, _ => none
noncomputable def IT_laws_markFirmTableS_w_0 (N : Nat) : Its E := addIt 0 (i_laws_markFirmTableS_w_0 N) (noIt)
theorem IT_laws_markFirmTableS_w_0_ok (N : Nat) : ItOk (IT_laws_markFirmTableS_w_0 N) 1 36 sl_laws_markFirmTableS_w (lsB Go.Proofs.Try.f31 [0]) :=
  addItB_ok (inner := []) ok (O_laws_markFirmTableS_w_ok N) (jn_ok _ _ _) (noIt_ok) rfl (by kernel_rfl) rfl fun vs H KL r h => by
    unfold i_laws_markFirmTableS_w_0 at h
    split at h
    · exact ⟨_, (le_laws_markFirmTableS_w_0 N _ KL N _ _ _).trans h⟩
    · cases h
def g_laws_markFirmTableS_w (N : Nat) {R : Type} (b : Bool) (n : Int) (l : List Go.Sa.FirmTable) (k : Int → (List Go.Sa.FirmTable) → Option R) : Option R :=
  (c_laws_markFirmTableS_w_0 N b n (0 : Int) l fun n3 l2 =>
  (k n3 l2))
theorem e_laws_markFirmTableS_w (N : Nat) {R : Type} (b : Bool) (n : Int) (l : List Go.Sa.FirmTable) (K : AV → Hp E → Option R) :
    runFnI (E := E) (O_laws_markFirmTableS_w N) (IT_laws_markFirmTableS_w_0 N) sl_laws_markFirmTableS_w J_laws_markFirmTableS_w Go.Proofs.Try.f31 [(Go.Eng.AV.sc (Go.Eng.SV.slc 0 Option.none b)), (Go.Eng.AV.sc (Go.Eng.SV.int Go.IntKind.i64 n))] [(Option.some (Go.Eng.HE.mk Bool.false (Go.Eng.HB.rows (Go.Sa.B.iFirmTable l))))] K =
      g_laws_markFirmTableS_w N b n l (fun n4 l3 => K (Go.Eng.AV.sc (Go.Eng.SV.int Go.IntKind.i64 n4)) [(Option.some (Go.Eng.HE.mk Bool.false (Go.Eng.HB.rows (Go.Sa.B.iFirmTable l3))))]) := by kernel_rfl
def o_laws_markFirmTableS_w (N : Nat) {R : Type} (args : List AV) (H : Hp E) (K : AV → Hp E → Option R) : Option R :=
  match args, H with
  | [(Go.Eng.AV.sc (Go.Eng.SV.slc 0 Option.none b)), (Go.Eng.AV.sc (Go.Eng.SV.int Go.IntKind.i64 n))], [(Option.some (Go.Eng.HE.mk Bool.false (Go.Eng.HB.rows (Go.Sa.B.iFirmTable l))))] => g_laws_markFirmTableS_w N b n l (fun n4 l3 => K (Go.Eng.AV.sc (Go.Eng.SV.int Go.IntKind.i64 n4)) [(Option.some (Go.Eng.HE.mk Bool.false (Go.Eng.HB.rows (Go.Sa.B.iFirmTable l3))))])
  | _, _ => none
theorem o_laws_markFirmTableS_w_ok (N : Nat) : FnOk E 31 (o_laws_markFirmTableS_w N) := by
  intro R args H K r h
  unfold o_laws_markFirmTableS_w at h
  dsimp only at h
  split at h
  · exact fnB_ok (ids := [0]) (top := [0]) ok (O_laws_markFirmTableS_w_ok N) (jn_ok _ _ _) Go.Proofs.Try.func31 (by kernel_rfl) (IT := IT_laws_markFirmTableS_w_0 N) (sl := sl_laws_markFirmTableS_w) (J := J_laws_markFirmTableS_w) (K := K) (H := [(Option.some (Go.Eng.HE.mk Bool.false (Go.Eng.HB.rows (Go.Sa.B.iFirmTable _))))]) (IT_laws_markFirmTableS_w_0_ok N) (by kernel_rfl) rfl ((e_laws_markFirmTableS_w N _ _ _ K).trans h)
  · cases h
/-! ### loop.example/g00038/laws.markFirmRead -/
abbrev sl_laws_markFirmRead_w : SlotT := []
abbrev J_laws_markFirmRead_w : JT := jn [] [] []
noncomputable def O_laws_markFirmRead_w (N : Nat) : Orc E := addFn 31 (o_laws_markFirmTableS_w N) (noFn)
theorem O_laws_markFirmRead_w_ok (N : Nat) : OrcOk (O_laws_markFirmRead_w N) := addFn_ok (o_laws_markFirmTableS_w_ok N) (noFn_ok)
def g_laws_markFirmRead_w (N : Nat) {R : Type} (n : Int) (b : Bool) (n1 : Int) (l : List Go.Sa.FirmTable) (k : Int → (List Go.Sa.FirmTable) → Option R) : Option R :=
  (g_laws_markFirmTableS_w N b n1 l fun n2 l1 =>
  (k n2 l1))
theorem e_laws_markFirmRead_w (N : Nat) {R : Type} (n : Int) (b : Bool) (n1 : Int) (l : List Go.Sa.FirmTable) (K : AV → Hp E → Option R) :
    runFnI (E := E) (O_laws_markFirmRead_w N) (noIt) sl_laws_markFirmRead_w J_laws_markFirmRead_w Go.Proofs.Try.f37 [(Go.Eng.AV.agg [(Go.Eng.SV.int Go.IntKind.i64 n), (Go.Eng.SV.slc 0 Option.none b)]), (Go.Eng.AV.sc (Go.Eng.SV.int Go.IntKind.i64 n1))] [(Option.some (Go.Eng.HE.mk Bool.false (Go.Eng.HB.rows (Go.Sa.B.iFirmTable l))))] K =
      g_laws_markFirmRead_w N n b n1 l (fun n3 l2 => K (Go.Eng.AV.sc (Go.Eng.SV.int Go.IntKind.i64 n3)) [(Option.some (Go.Eng.HE.mk Bool.false (Go.Eng.HB.rows (Go.Sa.B.iFirmTable l2))))]) := by kernel_rfl
def o_laws_markFirmRead_w (N : Nat) {R : Type} (args : List AV) (H : Hp E) (K : AV → Hp E → Option R) : Option R :=
  match args, H with
  | [(Go.Eng.AV.agg [(Go.Eng.SV.int Go.IntKind.i64 n), (Go.Eng.SV.slc 0 Option.none b)]), (Go.Eng.AV.sc (Go.Eng.SV.int Go.IntKind.i64 n1))], [(Option.some (Go.Eng.HE.mk Bool.false (Go.Eng.HB.rows (Go.Sa.B.iFirmTable l))))] => g_laws_markFirmRead_w N n b n1 l (fun n3 l2 => K (Go.Eng.AV.sc (Go.Eng.SV.int Go.IntKind.i64 n3)) [(Option.some (Go.Eng.HE.mk Bool.false (Go.Eng.HB.rows (Go.Sa.B.iFirmTable l2))))])
  | _, _ => none
theorem o_laws_markFirmRead_w_ok (N : Nat) : FnOk E 37 (o_laws_markFirmRead_w N) := by
  intro R args H K r h
  unfold o_laws_markFirmRead_w at h
  dsimp only at h
  split at h
  · exact fnB_ok (ids := []) (top := []) ok (O_laws_markFirmRead_w_ok N) (jn_ok _ _ _) Go.Proofs.Try.func37 (by kernel_rfl) (IT := noIt) (sl := sl_laws_markFirmRead_w) (J := J_laws_markFirmRead_w) (K := K) (H := [(Option.some (Go.Eng.HE.mk Bool.false (Go.Eng.HB.rows (Go.Sa.B.iFirmTable _))))]) (noIt_ok) (by kernel_rfl) rfl ((e_laws_markFirmRead_w N _ _ _ _ K).trans h)
  · cases h
/-! ### loop.example/g00038/laws.heldFirmTableS -/
abbrev sl_laws_heldFirmTableS_w : SlotT := [(0, ([0, 1, 5], [1, 4]))]
abbrev J_laws_heldFirmTableS_w : JT := jn [] [] []
noncomputable def O_laws_heldFirmTableS_w (N : Nat) : Orc E := addFn 89 (o_laws_markText N) (noFn)
theorem O_laws_heldFirmTableS_w_ok (N : Nat) : OrcOk (O_laws_heldFirmTableS_w N) := addFn_ok (o_laws_markText_ok N) (noFn_ok)
def s_laws_heldFirmTableS_w_0 (N : Nat) {R : Type} (b1 : Bool) (l1 : List Go.Sa.FirmTable) (n1 : Int) (n2 : Int) (ag : Int → Int → Option R)  (kR : Int → Option R) (kN : Int → Option R) : Option R :=
  (cond (decide ((n2 < (((List.length l1) : Nat) : Int))))
  (cond ((decide (((0 : Int) ≤ n2))) && (decide ((n2 < (((List.length l1) : Nat) : Int)))))
    (elemK l1 (Int.toNat n2) fun x =>
      (g_laws_markText N n1 fun s =>
      (cond (!(decide (((Go.Sa.FirmTable.fName x) = s))))
      (kR n1)
      (cond ((decide (((0 : Int) ≤ n2))) && (decide ((n2 < (((List.length l1) : Nat) : Int)))))
        (elemK l1 (Int.toNat n2) fun x1 =>
          (cond ((Go.Sa.FirmTable.fRev x1) != (Go.IntKind.wrap Go.IntKind.i64 (n1 + (1 : Int))))
          (kR (Go.IntKind.wrap Go.IntKind.i64 (n1 + (1 : Int))))
          (cond ((decide (((0 : Int) ≤ n2))) && (decide ((n2 < (((List.length l1) : Nat) : Int)))))
            (elemK l1 (Int.toNat n2) fun x2 =>
              (g_laws_markText N (Go.IntKind.wrap Go.IntKind.i64 ((Go.IntKind.wrap Go.IntKind.i64 (n1 + (1 : Int))) + (1 : Int))) fun s1 =>
              (cond (!(decide (((Go.Sa.FirmTable.fBody x2) = s1))))
              (kR (Go.IntKind.wrap Go.IntKind.i64 ((Go.IntKind.wrap Go.IntKind.i64 (n1 + (1 : Int))) + (1 : Int))))
              (ag (Go.IntKind.wrap Go.IntKind.i64 ((Go.IntKind.wrap Go.IntKind.i64 ((Go.IntKind.wrap Go.IntKind.i64 (n1 + (1 : Int))) + (1 : Int))) + (1 : Int))) (Go.IntKind.wrap Go.IntKind.i64 (n2 + (1 : Int)))))))
            none)))
        none))))
    none)
  (kN n1))
def l_laws_heldFirmTableS_w_0 (N : Nat) {R : Type} (b1 : Bool) (l1 : List Go.Sa.FirmTable) (kR : Int → Option R) (kN : Int → Option R) : Nat → Int → Int → Option R
  | 0, _, _ => none
  | f + 1, n1, n2 => s_laws_heldFirmTableS_w_0 N b1 l1 n1 n2 (fun n1 n2 => l_laws_heldFirmTableS_w_0 N b1 l1 kR kN f n1 n2)  kR kN
def c_laws_heldFirmTableS_w_0 (N : Nat) {R : Type} (b1 : Bool) (l1 : List Go.Sa.FirmTable) (n1 : Int) (n2 : Int) (kR : Int → Option R) (kN : Int → Option R) : Option R := l_laws_heldFirmTableS_w_0 N b1 l1 kR kN N n1 n2
theorem se_laws_heldFirmTableS_w_0 (N : Nat) {R : Type} (b1 : Bool) (l1 : List Go.Sa.FirmTable) (n1 : Int) (n2 : Int) (AG : List (Option AV) → Hp E → Option R) (KL : Ex → List (Option AV) → Hp E → Option R) :
    iterStep (E := E) (O_laws_heldFirmTableS_w N) (fun {R} => LI (noIt) 1 42 sl_laws_heldFirmTableS_w (R := R)) J_laws_heldFirmTableS_w 1 42 0 [0, 1, 5] [1, 4] (body Go.Proofs.Try.f100 0) AG KL [(Option.some (Go.Eng.AV.sc (Go.Eng.SV.slc 0 Option.none b1))), (Option.some (Go.Eng.AV.sc (Go.Eng.SV.int Go.IntKind.i64 n1))), (Option.some (Go.Eng.AV.sc (Go.Eng.SV.int Go.IntKind.i64 n2)))] [(Option.some (Go.Eng.HE.mk Bool.false (Go.Eng.HB.rows (Go.Sa.B.iFirmTable l1))))] =
      s_laws_heldFirmTableS_w_0 N b1 l1 n1 n2 (fun n1 n2 => AG [(Option.some (Go.Eng.AV.sc (Go.Eng.SV.slc 0 Option.none b1))), (Option.some (Go.Eng.AV.sc (Go.Eng.SV.int Go.IntKind.i64 n1))), (Option.some (Go.Eng.AV.sc (Go.Eng.SV.int Go.IntKind.i64 n2)))] [(Option.some (Go.Eng.HE.mk Bool.false (Go.Eng.HB.rows (Go.Sa.B.iFirmTable l1))))])  (fun n6 => KL Go.Eng.Ex.ret [(Option.some (Go.Eng.AV.sc (Go.Eng.SV.int Go.IntKind.i64 n6))), (Option.some (Go.Eng.AV.sc (Go.Eng.SV.int Go.IntKind.i64 (-(1 : Int)))))] [(Option.some (Go.Eng.HE.mk Bool.false (Go.Eng.HB.rows (Go.Sa.B.iFirmTable l1))))]) (fun n7 => KL Go.Eng.Ex.normal [(Option.some (Go.Eng.AV.sc (Go.Eng.SV.int Go.IntKind.i64 n7))), Option.none] [(Option.some (Go.Eng.HE.mk Bool.false (Go.Eng.HB.rows (Go.Sa.B.iFirmTable l1))))]) := by kernel_rfl
theorem le_laws_heldFirmTableS_w_0 (N : Nat) {R : Type} (b1 : Bool) (l1 : List Go.Sa.FirmTable) (KL : Ex → List (Option AV) → Hp E → Option R) : ∀ (f : Nat), ∀ (n1 : Int) (n2 : Int), iterK (E := E) (O_laws_heldFirmTableS_w N) (fun {R} => LI (noIt) 1 42 sl_laws_heldFirmTableS_w (R := R)) J_laws_heldFirmTableS_w 1 42 0 [0, 1, 5] [1, 4] (body Go.Proofs.Try.f100 0) f [(Option.some (Go.Eng.AV.sc (Go.Eng.SV.slc 0 Option.none b1))), (Option.some (Go.Eng.AV.sc (Go.Eng.SV.int Go.IntKind.i64 n1))), (Option.some (Go.Eng.AV.sc (Go.Eng.SV.int Go.IntKind.i64 n2)))] [(Option.some (Go.Eng.HE.mk Bool.false (Go.Eng.HB.rows (Go.Sa.B.iFirmTable l1))))] KL = l_laws_heldFirmTableS_w_0 N b1 l1 (fun n6 => KL Go.Eng.Ex.ret [(Option.some (Go.Eng.AV.sc (Go.Eng.SV.int Go.IntKind.i64 n6))), (Option.some (Go.Eng.AV.sc (Go.Eng.SV.int Go.IntKind.i64 (-(1 : Int)))))] [(Option.some (Go.Eng.HE.mk Bool.false (Go.Eng.HB.rows (Go.Sa.B.iFirmTable l1))))]) (fun n7 => KL Go.Eng.Ex.normal [(Option.some (Go.Eng.AV.sc (Go.Eng.SV.int Go.IntKind.i64 n7))), Option.none] [(Option.some (Go.Eng.HE.mk Bool.false (Go.Eng.HB.rows (Go.Sa.B.iFirmTable l1))))]) f n1 n2 := by
  intro f
  induction f with
  | zero => intros; rfl
  | succ f ih =>
    intro n1 n2
    rw [iterK_succ, se_laws_heldFirmTableS_w_0]
    exact (congrArg (fun z0 => s_laws_heldFirmTableS_w_0 N b1 l1 n1 n2 z0 (fun n6 => KL Go.Eng.Ex.ret [(Option.some (Go.Eng.AV.sc (Go.Eng.SV.int Go.IntKind.i64 n6))), (Option.some (Go.Eng.AV.sc (Go.Eng.SV.int Go.IntKind.i64 (-(1 : Int)))))] [(Option.some (Go.Eng.HE.mk Bool.false (Go.Eng.HB.rows (Go.Sa.B.iFirmTable l1))))]) (fun n7 => KL Go.Eng.Ex.normal [(Option.some (Go.Eng.AV.sc (Go.Eng.SV.int Go.IntKind.i64 n7))), Option.none] [(Option.some (Go.Eng.HE.mk Bool.false (Go.Eng.HB.rows (Go.Sa.B.iFirmTable l1))))])) (funext fun n1 => funext fun n2 => ih n1 n2))
def i_laws_heldFirmTableS_w_0 (N : Nat) {R : Type} (vs : List (Option AV)) (H : Hp E) (KL : Ex → List (Option AV) → Hp E → Option R) : Option R :=
  match vs, H with
  | [(Option.some (Go.Eng.AV.sc (Go.Eng.SV.slc 0 Option.none b1))), (Option.some (Go.Eng.AV.sc (Go.Eng.SV.int Go.IntKind.i64 n1))), (Option.some (Go.Eng.AV.sc (Go.Eng.SV.int Go.IntKind.i64 n2)))], [(Option.some (Go.Eng.HE.mk Bool.false (Go.Eng.HB.rows (Go.Sa.B.iFirmTable l1))))] => c_laws_heldFirmTableS_w_0 N b1 l1 n1 n2 (fun n8 => KL Go.Eng.Ex.ret [(Option.some (Go.Eng.AV.sc (Go.Eng.SV.int Go.IntKind.i64 n8))), (Option.some (Go.Eng.AV.sc (Go.Eng.SV.int Go.IntKind.i64 (-(1 : Int)))))] [(Option.some (Go.Eng.HE.mk Bool.false (Go.Eng.HB.rows (Go.Sa.B.iFirmTable l1))))]) (fun n9 => KL Go.Eng.Ex.normal [(Option.some (Go.Eng.AV.sc (Go.Eng.SV.int Go.IntKind.i64 n9))), Option.none] [(Option.some (Go.Eng.HE.mk Bool.false (Go.Eng.HB.rows (Go.Sa.B.iFirmTable l1))))])
  | _, _ => none
noncomputable def IT_laws_heldFirmTableS_w_0 (N : Nat) : Its E := addIt 0 (i_laws_heldFirmTableS_w_0 N) (noIt)
theorem IT_laws_heldFirmTableS_w_0_ok (N : Nat) : ItOk (IT_laws_heldFirmTableS_w_0 N) 1 42 sl_laws_heldFirmTableS_w (lsB Go.Proofs.Try.f100 [0]) :=
  addItB_ok (inner := []) ok (O_laws_heldFirmTableS_w_ok N) (jn_ok _ _ _) (noIt_ok) rfl (by kernel_rfl) rfl fun vs H KL r h => by
    unfold i_laws_heldFirmTableS_w_0 at h
    split at h
    · exact ⟨_, (le_laws_heldFirmTableS_w_0 N _ _ KL N _ _).trans h⟩
    · cases h
def g_laws_heldFirmTableS_w (N : Nat) {R : Type} (b : Bool) (n : Int) (l : List Go.Sa.FirmTable) (k : Int → Option R) : Option R :=
  (c_laws_heldFirmTableS_w_0 N b l n (0 : Int) (fun n3 =>
  (k (-(1 : Int)))) (fun n4 =>
  (k n4)))
theorem e_laws_heldFirmTableS_w (N : Nat) {R : Type} (b : Bool) (n : Int) (l : List Go.Sa.FirmTable) (K : AV → Hp E → Option R) :
    runFnI (E := E) (O_laws_heldFirmTableS_w N) (IT_laws_heldFirmTableS_w_0 N) sl_laws_heldFirmTableS_w J_laws_heldFirmTableS_w Go.Proofs.Try.f100 [(Go.Eng.AV.sc (Go.Eng.SV.slc 0 Option.none b)), (Go.Eng.AV.sc (Go.Eng.SV.int Go.IntKind.i64 n))] [(Option.some (Go.Eng.HE.mk Bool.false (Go.Eng.HB.rows (Go.Sa.B.iFirmTable l))))] K =
      g_laws_heldFirmTableS_w N b n l (fun n5 => K (Go.Eng.AV.sc (Go.Eng.SV.int Go.IntKind.i64 n5)) [(Option.some (Go.Eng.HE.mk Bool.false (Go.Eng.HB.rows (Go.Sa.B.iFirmTable l))))]) := by kernel_rfl
def o_laws_heldFirmTableS_w (N : Nat) {R : Type} (args : List AV) (H : Hp E) (K : AV → Hp E → Option R) : Option R :=
  match args, H with
  | [(Go.Eng.AV.sc (Go.Eng.SV.slc 0 Option.none b)), (Go.Eng.AV.sc (Go.Eng.SV.int Go.IntKind.i64 n))], [(Option.some (Go.Eng.HE.mk Bool.false (Go.Eng.HB.rows (Go.Sa.B.iFirmTable l))))] => g_laws_heldFirmTableS_w N b n l (fun n5 => K (Go.Eng.AV.sc (Go.Eng.SV.int Go.IntKind.i64 n5)) [(Option.some (Go.Eng.HE.mk Bool.false (Go.Eng.HB.rows (Go.Sa.B.iFirmTable l))))])
  | _, _ => none
theorem o_laws_heldFirmTableS_w_ok (N : Nat) : FnOk E 100 (o_laws_heldFirmTableS_w N) := by
  intro R args H K r h
  unfold o_laws_heldFirmTableS_w at h
  dsimp only at h
  split at h
  · exact fnB_ok (ids := [0]) (top := [0]) ok (O_laws_heldFirmTableS_w_ok N) (jn_ok _ _ _) Go.Proofs.Try.func100 (by kernel_rfl) (IT := IT_laws_heldFirmTableS_w_0 N) (sl := sl_laws_heldFirmTableS_w) (J := J_laws_heldFirmTableS_w) (K := K) (H := [(Option.some (Go.Eng.HE.mk Bool.false (Go.Eng.HB.rows (Go.Sa.B.iFirmTable _))))]) (IT_laws_heldFirmTableS_w_0_ok N) (by kernel_rfl) rfl ((e_laws_heldFirmTableS_w N _ _ _ K).trans h)
  · cases h
/-! ### loop.example/g00038/laws.heldFirmRead -/
abbrev sl_laws_heldFirmRead_w : SlotT := []
abbrev J_laws_heldFirmRead_w : JT := jn [] [] []
noncomputable def O_laws_heldFirmRead_w (N : Nat) : Orc E := addFn 100 (o_laws_heldFirmTableS_w N) (noFn)
theorem O_laws_heldFirmRead_w_ok (N : Nat) : OrcOk (O_laws_heldFirmRead_w N) := addFn_ok (o_laws_heldFirmTableS_w_ok N) (noFn_ok)
def g_laws_heldFirmRead_w (N : Nat) {R : Type} (n : Int) (b : Bool) (n1 : Int) (l : List Go.Sa.FirmTable) (k : Int → Option R) : Option R :=
  (g_laws_heldFirmTableS_w N b n1 l fun n2 =>
  (cond (decide ((n2 < (0 : Int))))
  (k (-(1 : Int)))
  (k n2)))
theorem e_laws_heldFirmRead_w (N : Nat) {R : Type} (n : Int) (b : Bool) (n1 : Int) (l : List Go.Sa.FirmTable) (K : AV → Hp E → Option R) :
    runFnI (E := E) (O_laws_heldFirmRead_w N) (noIt) sl_laws_heldFirmRead_w J_laws_heldFirmRead_w Go.Proofs.Try.f38 [(Go.Eng.AV.agg [(Go.Eng.SV.int Go.IntKind.i64 n), (Go.Eng.SV.slc 0 Option.none b)]), (Go.Eng.AV.sc (Go.Eng.SV.int Go.IntKind.i64 n1))] [(Option.some (Go.Eng.HE.mk Bool.false (Go.Eng.HB.rows (Go.Sa.B.iFirmTable l))))] K =
      g_laws_heldFirmRead_w N n b n1 l (fun n3 => K (Go.Eng.AV.sc (Go.Eng.SV.int Go.IntKind.i64 n3)) [(Option.some (Go.Eng.HE.mk Bool.false (Go.Eng.HB.rows (Go.Sa.B.iFirmTable l))))]) := by kernel_rfl
def o_laws_heldFirmRead_w (N : Nat) {R : Type} (args : List AV) (H : Hp E) (K : AV → Hp E → Option R) : Option R :=
  match args, H with
  | [(Go.Eng.AV.agg [(Go.Eng.SV.int Go.IntKind.i64 n), (Go.Eng.SV.slc 0 Option.none b)]), (Go.Eng.AV.sc (Go.Eng.SV.int Go.IntKind.i64 n1))], [(Option.some (Go.Eng.HE.mk Bool.false (Go.Eng.HB.rows (Go.Sa.B.iFirmTable l))))] => g_laws_heldFirmRead_w N n b n1 l (fun n3 => K (Go.Eng.AV.sc (Go.Eng.SV.int Go.IntKind.i64 n3)) [(Option.some (Go.Eng.HE.mk Bool.false (Go.Eng.HB.rows (Go.Sa.B.iFirmTable l))))])
  | _, _ => none
theorem o_laws_heldFirmRead_w_ok (N : Nat) : FnOk E 38 (o_laws_heldFirmRead_w N) := by
  intro R args H K r h
  unfold o_laws_heldFirmRead_w at h
  dsimp only at h
  split at h
  · exact fnB_ok (ids := []) (top := []) ok (O_laws_heldFirmRead_w_ok N) (jn_ok _ _ _) Go.Proofs.Try.func38 (by kernel_rfl) (IT := noIt) (sl := sl_laws_heldFirmRead_w) (J := J_laws_heldFirmRead_w) (K := K) (H := [(Option.some (Go.Eng.HE.mk Bool.false (Go.Eng.HB.rows (Go.Sa.B.iFirmTable _))))]) (noIt_ok) (by kernel_rfl) rfl ((e_laws_heldFirmRead_w N _ _ _ _ K).trans h)
  · cases h
/-! ### loop.example/g00038/laws.FnExactReadTables -/
abbrev sl_laws_FnExactReadTables : SlotT := []
abbrev J_laws_FnExactReadTables : JT := jn [] [] []
noncomputable def O_laws_FnExactReadTables (N : Nat) : Orc E := addFn 38 (o_laws_heldFirmRead_w N) (addFn 37 (o_laws_markFirmRead_w N) (addFn 36 (o_laws_eqFirmRead_ww N) (addFn 35 (o_impl_ReadTables N) (addFn 34 (o_spec_ReadTables N) (noFn)))))
theorem O_laws_FnExactReadTables_ok (N : Nat) : OrcOk (O_laws_FnExactReadTables N) := addFn_ok (o_laws_heldFirmRead_w_ok N) (addFn_ok (o_laws_markFirmRead_w_ok N) (addFn_ok (o_laws_eqFirmRead_ww_ok N) (addFn_ok (o_impl_ReadTables_ok N) (addFn_ok (o_spec_ReadTables_ok N) (noFn_ok)))))
def g_laws_FnExactReadTables (N : Nat) {R : Type} (s : ByteArray) (n : Int) (k : Bool → Option R) : Option R :=
  (cond (decide (((((ByteArray.size s) : Nat) : Int) > (1048576 : Int))))
  (k Bool.true)
  (g_spec_ReadTables N s n fun n1 b l =>
    (g_impl_ReadTables N s n fun n2 b1 l1 =>
    (g_laws_eqFirmRead_ww N n2 b1 n1 b l1 l fun b2 =>
    (cond (!b2)
    (k Bool.false)
    (g_laws_markFirmRead_w N n2 b1 (1 : Int) l1 fun n3 l2 =>
      (g_laws_heldFirmRead_w N n2 b1 (1 : Int) l2 fun n4 =>
      (cond (decide ((n4 < (0 : Int))))
      (k Bool.false)
      (cond (n4 != n3)
        (k Bool.false)
        (g_impl_ReadTables N s n fun n5 b3 l3 =>
          (g_laws_eqFirmRead_ww N n5 b3 n1 b l3 l fun b4 =>
          (cond (!b4)
          (k Bool.false)
          (g_laws_heldFirmRead_w N n2 b1 (1 : Int) l2 fun n6 =>
            (cond (decide ((n6 < (0 : Int))))
            (k Bool.false)
            (cond (n6 != n3)
              (k Bool.false)
              (k Bool.true))))))))))))))))
theorem e_laws_FnExactReadTables (N : Nat) {R : Type} (s : ByteArray) (n : Int) (K : AV → Hp E → Option R) :
    runFnI (E := E) (O_laws_FnExactReadTables N) (noIt) sl_laws_FnExactReadTables J_laws_FnExactReadTables Go.Proofs.Try.f7 [(Go.Eng.AV.sc (Go.Eng.SV.str s)), (Go.Eng.AV.sc (Go.Eng.SV.int Go.IntKind.i64 n))] [] K =
      g_laws_FnExactReadTables N s n (fun b5 => K (Go.Eng.AV.sc (Go.Eng.SV.bool b5)) []) := by kernel_rfl
def o_laws_FnExactReadTables (N : Nat) {R : Type} (args : List AV) (H : Hp E) (K : AV → Hp E → Option R) : Option R :=
  match args, H with
  | [(Go.Eng.AV.sc (Go.Eng.SV.str s)), (Go.Eng.AV.sc (Go.Eng.SV.int Go.IntKind.i64 n))], [] => g_laws_FnExactReadTables N s n (fun b5 => K (Go.Eng.AV.sc (Go.Eng.SV.bool b5)) [])
  | _, _ => none
theorem o_laws_FnExactReadTables_ok (N : Nat) : FnOk E 7 (o_laws_FnExactReadTables N) := by
  intro R args H K r h
  unfold o_laws_FnExactReadTables at h
  dsimp only at h
  split at h
  · exact fnB_ok (ids := []) (top := []) ok (O_laws_FnExactReadTables_ok N) (jn_ok _ _ _) Go.Proofs.Try.func7 (by kernel_rfl) (IT := noIt) (sl := sl_laws_FnExactReadTables) (J := J_laws_FnExactReadTables) (K := K) (H := []) (noIt_ok) (by kernel_rfl) rfl ((e_laws_FnExactReadTables N _ _ K).trans h)
  · cases h
end Go.Sa
