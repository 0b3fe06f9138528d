import Derived.Test.YtjimjkhpahegjaaEnv
import Derived.Test.YtjimjkhpahegjaaPLb
import Derived.Test.YtjimjkhpahegjaaW0
set_option linter.all false
namespace Go.Sa
open Go Go.Eng Go.Proofs
set_option maxRecDepth 100000
/-! ### loop.example/g00038/impl.ywordSum -/
abbrev sl_impl_ywordSum : SlotT := [(0, ([0, 3, 4], [3]))]
abbrev J_impl_ywordSum : JT := jn [] []
noncomputable def O_impl_ywordSum (N : Nat) : Orc E := addFn 148 (o_impl_Word N) (addFn 147 (o_impl_ywordAt N) (noFn))
theorem O_impl_ywordSum_ok (N : Nat) : OrcOk (O_impl_ywordSum N) := addFn_ok (o_impl_Word_ok N) (addFn_ok (o_impl_ywordAt_ok N) (noFn_ok))
def s_impl_ywordSum_0 (N : Nat) {R : Type} (s1 : ByteArray) (n : Int) (n1 : Int) (ag : Int → Int → Option R)  (kN : Int → Option R) : Option R :=
  (cond (decide ((n1 < (((ByteArray.size s1) : Nat) : Int))))
  (g_impl_ywordAt N s1 n1 fun n2 =>
    (ag (Go.IntKind.wrap Go.IntKind.i64 (n + n2)) (Go.IntKind.wrap Go.IntKind.i64 (n1 + (4 : Int)))))
  (kN n))
def l_impl_ywordSum_0 (N : Nat) {R : Type} (s1 : ByteArray) (kN : Int → Option R) : Nat → Int → Int → Option R
  | 0, _, _ => none
  | f + 1, n, n1 => s_impl_ywordSum_0 N s1 n n1 (fun n n1 => l_impl_ywordSum_0 N s1 kN f n n1)  kN
def c_impl_ywordSum_0 (N : Nat) {R : Type} (s1 : ByteArray) (n : Int) (n1 : Int) (kN : Int → Option R) : Option R := l_impl_ywordSum_0 N s1 kN N n n1
theorem se_impl_ywordSum_0 (N : Nat) {R : Type} (s1 : ByteArray) (n : Int) (n1 : Int) (AG : List (Option AV) → Hp E → Option R) (KL : Ex → List (Option AV) → Hp E → Option R) :
    iterStep (E := E) (O_impl_ywordSum N) (fun {R} => LI (noIt) 0 18 sl_impl_ywordSum (R := R)) J_impl_ywordSum 0 18 0 [0, 3, 4] [3] (body Go.Proofs.Try.f112 0) AG KL [(Option.some (Go.Eng.AV.sc (Go.Eng.SV.str s1))), (Option.some (Go.Eng.AV.sc (Go.Eng.SV.int Go.IntKind.i64 n))), (Option.some (Go.Eng.AV.sc (Go.Eng.SV.int Go.IntKind.i64 n1)))] [] =
      s_impl_ywordSum_0 N s1 n n1 (fun n n1 => AG [(Option.some (Go.Eng.AV.sc (Go.Eng.SV.str s1))), (Option.some (Go.Eng.AV.sc (Go.Eng.SV.int Go.IntKind.i64 n))), (Option.some (Go.Eng.AV.sc (Go.Eng.SV.int Go.IntKind.i64 n1)))] [])  (fun n6 => KL Go.Eng.Ex.normal [(Option.some (Go.Eng.AV.sc (Go.Eng.SV.int Go.IntKind.i64 n6)))] []) := by kernel_rfl
theorem le_impl_ywordSum_0 (N : Nat) {R : Type} (s1 : ByteArray) (KL : Ex → List (Option AV) → Hp E → Option R) : ∀ (f : Nat), ∀ (n : Int) (n1 : Int), iterK (E := E) (O_impl_ywordSum N) (fun {R} => LI (noIt) 0 18 sl_impl_ywordSum (R := R)) J_impl_ywordSum 0 18 0 [0, 3, 4] [3] (body Go.Proofs.Try.f112 0) f [(Option.some (Go.Eng.AV.sc (Go.Eng.SV.str s1))), (Option.some (Go.Eng.AV.sc (Go.Eng.SV.int Go.IntKind.i64 n))), (Option.some (Go.Eng.AV.sc (Go.Eng.SV.int Go.IntKind.i64 n1)))] [] KL = l_impl_ywordSum_0 N s1 (fun n6 => KL Go.Eng.Ex.normal [(Option.some (Go.Eng.AV.sc (Go.Eng.SV.int Go.IntKind.i64 n6)))] []) f n n1 := by
  intro f
  induction f with
  | zero => intros; rfl
  | succ f ih =>
    intro n n1
    rw [iterK_succ, se_impl_ywordSum_0]
    exact (congrArg (fun z0 => s_impl_ywordSum_0 N s1 n n1 z0 (fun n6 => KL Go.Eng.Ex.normal [(Option.some (Go.Eng.AV.sc (Go.Eng.SV.int Go.IntKind.i64 n6)))] [])) (funext fun n => funext fun n1 => ih n n1))
def i_impl_ywordSum_0 (N : Nat) {R : Type} (vs : List (Option AV)) (H : Hp E) (KL : Ex → List (Option AV) → Hp E → Option R) : Option R :=
  match vs, H with
  | [(Option.some (Go.Eng.AV.sc (Go.Eng.SV.str s1))), (Option.some (Go.Eng.AV.sc (Go.Eng.SV.int Go.IntKind.i64 n))), (Option.some (Go.Eng.AV.sc (Go.Eng.SV.int Go.IntKind.i64 n1)))], [] => c_impl_ywordSum_0 N s1 n n1 (fun n7 => KL Go.Eng.Ex.normal [(Option.some (Go.Eng.AV.sc (Go.Eng.SV.int Go.IntKind.i64 n7)))] [])
  | _, _ => none
noncomputable def IT_impl_ywordSum_0 (N : Nat) : Its E := addIt 0 (i_impl_ywordSum_0 N) (noIt)
theorem IT_impl_ywordSum_0_ok (N : Nat) : ItOk (IT_impl_ywordSum_0 N) 0 18 sl_impl_ywordSum (lsB Go.Proofs.Try.f112 [0]) :=
  addItB_ok (inner := []) ok (O_impl_ywordSum_ok N) (jn_ok _ _) (noIt_ok) rfl (by kernel_rfl) rfl fun vs H KL r h => by
    unfold i_impl_ywordSum_0 at h
    split at h
    · exact ⟨_, (le_impl_ywordSum_0 N _ KL N _ _).trans h⟩
    · cases h
def g_impl_ywordSum (N : Nat) {R : Type} (s : ByteArray) (k : Int → Option R) : Option R :=
  (c_impl_ywordSum_0 N s (0 : Int) (0 : Int) fun n3 =>
  (g_impl_Word N n3 fun n4 =>
  (k n4)))
theorem e_impl_ywordSum (N : Nat) {R : Type} (s : ByteArray) (K : AV → Hp E → Option R) :
    runFnI (E := E) (O_impl_ywordSum N) (IT_impl_ywordSum_0 N) sl_impl_ywordSum J_impl_ywordSum Go.Proofs.Try.f112 [(Go.Eng.AV.sc (Go.Eng.SV.str s))] [] K =
      g_impl_ywordSum N s (fun n5 => K (Go.Eng.AV.sc (Go.Eng.SV.int Go.IntKind.i64 n5)) []) := by kernel_rfl
def o_impl_ywordSum (N : Nat) {R : Type} (args : List AV) (H : Hp E) (K : AV → Hp E → Option R) : Option R :=
  match args, H with
  | [(Go.Eng.AV.sc (Go.Eng.SV.str s))], [] => g_impl_ywordSum N s (fun n5 => K (Go.Eng.AV.sc (Go.Eng.SV.int Go.IntKind.i64 n5)) [])
  | _, _ => none
theorem o_impl_ywordSum_ok (N : Nat) : FnOk E 112 (o_impl_ywordSum N) := by
  intro R args H K r h
  unfold o_impl_ywordSum at h
  dsimp only at h
  split at h
  · exact fnB_ok (ids := [0]) (top := [0]) ok (O_impl_ywordSum_ok N) (jn_ok _ _) Go.Proofs.Try.func112 (by kernel_rfl) (IT := IT_impl_ywordSum_0 N) (sl := sl_impl_ywordSum) (J := J_impl_ywordSum) (K := K) (H := []) (IT_impl_ywordSum_0_ok N) (by kernel_rfl) rfl ((e_impl_ywordSum N _ K).trans h)
  · cases h
/-! ### loop.example/g00038/impl.yfits -/
abbrev sl_impl_yfits : SlotT := []
abbrev J_impl_yfits : JT := jn [(1, [(6, .b)])] []
noncomputable def O_impl_yfits (N : Nat) : Orc E := noFn
theorem O_impl_yfits_ok (N : Nat) : OrcOk (O_impl_yfits N) := noFn_ok
def g_impl_yfits (N : Nat) {R : Type} (n : Int) (n1 : Int) (n2 : Int) (k : Bool → Option R) : Option R :=
  (oK (cond (decide ((n1 ≥ (0 : Int))))
    (cond (decide ((n2 ≥ (0 : Int))))
      (cond (decide ((n1 ≤ n)))
        (some (decide ((n2 ≤ (Go.IntKind.wrap Go.IntKind.i64 (n - n1))))))
        (some Bool.false))
      (some Bool.false))
    (some Bool.false)) fun j =>
  (k j))
theorem e_impl_yfits (N : Nat) {R : Type} (n : Int) (n1 : Int) (n2 : Int) (K : AV → Hp E → Option R) :
    runFnI (E := E) (O_impl_yfits N) (noIt) sl_impl_yfits J_impl_yfits Go.Proofs.Try.f113 [(Go.Eng.AV.sc (Go.Eng.SV.int Go.IntKind.i64 n)), (Go.Eng.AV.sc (Go.Eng.SV.int Go.IntKind.i64 n1)), (Go.Eng.AV.sc (Go.Eng.SV.int Go.IntKind.i64 n2))] [] K =
      g_impl_yfits N n n1 n2 (fun b => K (Go.Eng.AV.sc (Go.Eng.SV.bool b)) []) := by kernel_rfl
def o_impl_yfits (N : Nat) {R : Type} (args : List AV) (H : Hp E) (K : AV → Hp E → Option R) : Option R :=
  match args, H with
  | [(Go.Eng.AV.sc (Go.Eng.SV.int Go.IntKind.i64 n)), (Go.Eng.AV.sc (Go.Eng.SV.int Go.IntKind.i64 n1)), (Go.Eng.AV.sc (Go.Eng.SV.int Go.IntKind.i64 n2))], [] => g_impl_yfits N n n1 n2 (fun b => K (Go.Eng.AV.sc (Go.Eng.SV.bool b)) [])
  | _, _ => none
theorem o_impl_yfits_ok (N : Nat) : FnOk E 113 (o_impl_yfits N) := by
  intro R args H K r h
  unfold o_impl_yfits at h
  dsimp only at h
  split at h
  · exact fnB_ok (ids := []) (top := []) ok (O_impl_yfits_ok N) (jn_ok _ _) Go.Proofs.Try.func113 (by kernel_rfl) (IT := noIt) (sl := sl_impl_yfits) (J := J_impl_yfits) (K := K) (H := []) (noIt_ok) (by kernel_rfl) rfl ((e_impl_yfits N _ _ _ K).trans h)
  · cases h
/-! ### loop.example/g00038/impl.ysplice -/
abbrev sl_impl_ysplice : SlotT := []
abbrev J_impl_ysplice : JT := jn [] []
noncomputable def O_impl_ysplice (N : Nat) : Orc E := noFn
theorem O_impl_ysplice_ok (N : Nat) : OrcOk (O_impl_ysplice N) := noFn_ok
def g_impl_ysplice (N : Nat) {R : Type} (s : ByteArray) (n : Int) (s1 : ByteArray) (k : ByteArray → Option R) : Option R :=
  (cond ((decide (((0 : Int) ≤ n))) && (decide ((n ≤ (((ByteArray.size s) : Nat) : Int)))))
  (cond (Nat.ble ((ByteArray.size (ByteArray.extract s 0 (Int.toNat n))) + (ByteArray.size s1)) 9223372036854775807)
    (cond (((decide (((0 : Int) ≤ (Go.IntKind.wrap Go.IntKind.i64 (n + (((ByteArray.size s1) : Nat) : Int)))))) && (decide (((Go.IntKind.wrap Go.IntKind.i64 (n + (((ByteArray.size s1) : Nat) : Int))) ≤ (((ByteArray.size s) : Nat) : Int))))) && (decide (((((ByteArray.size s) : Nat) : Int) ≤ (((ByteArray.size s) : Nat) : Int)))))
      (cond (Nat.ble ((ByteArray.size ((ByteArray.extract s 0 (Int.toNat n)) ++ s1)) + (ByteArray.size (ByteArray.extract s (Int.toNat (Go.IntKind.wrap Go.IntKind.i64 (n + (((ByteArray.size s1) : Nat) : Int)))) (Int.toNat (((ByteArray.size s) : Nat) : Int))))) 9223372036854775807)
        (k (((ByteArray.extract s 0 (Int.toNat n)) ++ s1) ++ (ByteArray.extract s (Int.toNat (Go.IntKind.wrap Go.IntKind.i64 (n + (((ByteArray.size s1) : Nat) : Int)))) (Int.toNat (((ByteArray.size s) : Nat) : Int)))))
        none)
      none)
    none)
  none)
theorem e_impl_ysplice (N : Nat) {R : Type} (s : ByteArray) (n : Int) (s1 : ByteArray) (K : AV → Hp E → Option R) :
    runFnI (E := E) (O_impl_ysplice N) (noIt) sl_impl_ysplice J_impl_ysplice Go.Proofs.Try.f114 [(Go.Eng.AV.sc (Go.Eng.SV.str s)), (Go.Eng.AV.sc (Go.Eng.SV.int Go.IntKind.i64 n)), (Go.Eng.AV.sc (Go.Eng.SV.str s1))] [] K =
      g_impl_ysplice N s n s1 (fun s2 => K (Go.Eng.AV.sc (Go.Eng.SV.str s2)) []) := by kernel_rfl
def o_impl_ysplice (N : Nat) {R : Type} (args : List AV) (H : Hp E) (K : AV → Hp E → Option R) : Option R :=
  match args, H with
  | [(Go.Eng.AV.sc (Go.Eng.SV.str s)), (Go.Eng.AV.sc (Go.Eng.SV.int Go.IntKind.i64 n)), (Go.Eng.AV.sc (Go.Eng.SV.str s1))], [] => g_impl_ysplice N s n s1 (fun s2 => K (Go.Eng.AV.sc (Go.Eng.SV.str s2)) [])
  | _, _ => none
theorem o_impl_ysplice_ok (N : Nat) : FnOk E 114 (o_impl_ysplice N) := by
  intro R args H K r h
  unfold o_impl_ysplice at h
  dsimp only at h
  split at h
  · exact fnB_ok (ids := []) (top := []) ok (O_impl_ysplice_ok N) (jn_ok _ _) Go.Proofs.Try.func114 (by kernel_rfl) (IT := noIt) (sl := sl_impl_ysplice) (J := J_impl_ysplice) (K := K) (H := []) (noIt_ok) (by kernel_rfl) rfl ((e_impl_ysplice N _ _ _ K).trans h)
  · cases h
/-! ### loop.example/g00038/impl.PutTables -/
abbrev sl_impl_PutTables_w : SlotT := [(0, ([0, 1, 7, 8, 9, 46, 47, 48], [0, 1, 7, 9]))]
abbrev J_impl_PutTables_w : JT := jn [(1, [(35, .b)])] []
noncomputable def O_impl_PutTables_w (N : Nat) : Orc E := addFn 114 (o_impl_ysplice N) (addFn 113 (o_impl_yfits N) (addFn 112 (o_impl_ywordSum N) (addFn 111 (o_impl_ybyteSum N) (addFn 91 (o_impl_PutWord N) (addFn 108 (o_slices_ContainsFunc_FirmTable_Fimpl_PutTables_1_r N) (addFn 107 (o_impl_ymemOk N) (noFn)))))))
theorem O_impl_PutTables_w_ok (N : Nat) : OrcOk (O_impl_PutTables_w N) := addFn_ok (o_impl_ysplice_ok N) (addFn_ok (o_impl_yfits_ok N) (addFn_ok (o_impl_ywordSum_ok N) (addFn_ok (o_impl_ybyteSum_ok N) (addFn_ok (o_impl_PutWord_ok N) (addFn_ok (o_slices_ContainsFunc_FirmTable_Fimpl_PutTables_1_r_ok N) (addFn_ok (o_impl_ymemOk_ok N) (noFn_ok)))))))
def s_impl_PutTables_w_0 (N : Nat) {R : Type} (s2 : ByteArray) (n1 : Int) (n2 : Int) (b3 : Bool) (n3 : Int) (l1 : List Go.Sa.FirmTable) (s3 : ByteArray) (s4 : ByteArray) (n4 : Int) (ag : ByteArray → ByteArray → Int → Option R)  (kN : ByteArray → ByteArray → Option R) : Option R :=
  (cond (decide ((n4 < n3)))
  (cond ((decide (((0 : Int) ≤ n4))) && (decide ((n4 < (((List.length l1) : Nat) : Int)))))
    (elemK l1 (Int.toNat n4) fun x =>
      (g_impl_PutWord N (Go.IntKind.wrap Go.IntKind.i64 (n2 + (((ByteArray.size s4) : Nat) : Int))) fun s5 =>
      (cond (Nat.ble ((ByteArray.size s3) + (ByteArray.size s5)) 9223372036854775807)
      (g_impl_PutWord N (Go.IntKind.wrap Go.IntKind.i64 (((BitVec.toNat ((BitVec.ofInt 64 (Go.IntKind.wrap Go.IntKind.i64 ((Go.IntKind.wrap Go.IntKind.i64 ((8 : Int) + (((ByteArray.size (Go.Sa.FirmTable.fBody x)) : Nat) : Int))) * (65536 : Int)))) ||| (BitVec.ofInt 64 (Go.IntKind.wrap Go.IntKind.i64 ((Go.Sa.FirmTable.fRev x) * (256 : Int)))))) : Nat) : Int)) fun s6 =>
        (cond (Nat.ble ((ByteArray.size (Go.Sa.FirmTable.fName x)) + (ByteArray.size s6)) 9223372036854775807)
        (cond (Nat.ble ((ByteArray.size ((Go.Sa.FirmTable.fName x) ++ s6)) + (ByteArray.size (Go.Sa.FirmTable.fBody x))) 9223372036854775807)
          (g_impl_ybyteSum N (((Go.Sa.FirmTable.fName x) ++ s6) ++ (Go.Sa.FirmTable.fBody x)) fun n5 =>
            (g_impl_PutWord N (Go.IntKind.wrap Go.IntKind.i64 (((BitVec.toNat ((BitVec.ofInt 64 (Go.IntKind.wrap Go.IntKind.i64 (((BitVec.toNat ((BitVec.ofInt 64 (Go.IntKind.wrap Go.IntKind.i64 ((Go.IntKind.wrap Go.IntKind.i64 ((8 : Int) + (((ByteArray.size (Go.Sa.FirmTable.fBody x)) : Nat) : Int))) * (65536 : Int)))) ||| (BitVec.ofInt 64 (Go.IntKind.wrap Go.IntKind.i64 ((Go.Sa.FirmTable.fRev x) * (256 : Int)))))) : Nat) : Int))) ||| (BitVec.ofInt 64 (Go.IntKind.wrap Go.IntKind.i64 (((BitVec.toNat ((BitVec.ofInt 64 (Go.IntKind.wrap Go.IntKind.i64 ((256 : Int) - n5))) &&& (BitVec.ofInt 64 (255 : Int)))) : Nat) : Int))))) : Nat) : Int)) fun s7 =>
            (cond (Nat.ble ((ByteArray.size (Go.Sa.FirmTable.fName x)) + (ByteArray.size s7)) 9223372036854775807)
            (cond (Nat.ble ((ByteArray.size ((Go.Sa.FirmTable.fName x) ++ s7)) + (ByteArray.size (Go.Sa.FirmTable.fBody x))) 9223372036854775807)
              (cond (Nat.ble ((ByteArray.size s4) + (ByteArray.size (((Go.Sa.FirmTable.fName x) ++ s7) ++ (Go.Sa.FirmTable.fBody x)))) 9223372036854775807)
                (ag (s3 ++ s5) (s4 ++ (((Go.Sa.FirmTable.fName x) ++ s7) ++ (Go.Sa.FirmTable.fBody x))) (Go.IntKind.wrap Go.IntKind.i64 (n4 + (1 : Int))))
                none)
              none)
            none)))
          none)
        none))
      none)))
    none)
  (kN s3 s4))
def l_impl_PutTables_w_0 (N : Nat) {R : Type} (s2 : ByteArray) (n1 : Int) (n2 : Int) (b3 : Bool) (n3 : Int) (l1 : List Go.Sa.FirmTable) (kN : ByteArray → ByteArray → Option R) : Nat → ByteArray → ByteArray → Int → Option R
  | 0, _, _, _ => none
  | f + 1, s3, s4, n4 => s_impl_PutTables_w_0 N s2 n1 n2 b3 n3 l1 s3 s4 n4 (fun s3 s4 n4 => l_impl_PutTables_w_0 N s2 n1 n2 b3 n3 l1 kN f s3 s4 n4)  kN
def c_impl_PutTables_w_0 (N : Nat) {R : Type} (s2 : ByteArray) (n1 : Int) (n2 : Int) (b3 : Bool) (n3 : Int) (l1 : List Go.Sa.FirmTable) (s3 : ByteArray) (s4 : ByteArray) (n4 : Int) (kN : ByteArray → ByteArray → Option R) : Option R := l_impl_PutTables_w_0 N s2 n1 n2 b3 n3 l1 kN N s3 s4 n4
theorem se_impl_PutTables_w_0 (N : Nat) {R : Type} (s2 : ByteArray) (n1 : Int) (n2 : Int) (b3 : Bool) (n3 : Int) (l1 : List Go.Sa.FirmTable) (s3 : ByteArray) (s4 : ByteArray) (n4 : Int) (AG : List (Option AV) → Hp E → Option R) (KL : Ex → List (Option AV) → Hp E → Option R) :
    iterStep (E := E) (O_impl_PutTables_w N) (fun {R} => LI (noIt) 1 111 sl_impl_PutTables_w (R := R)) J_impl_PutTables_w 1 111 0 [0, 1, 7, 8, 9, 46, 47, 48] [0, 1, 7, 9] (body Go.Proofs.Try.f56 0) AG KL [(Option.some (Go.Eng.AV.sc (Go.Eng.SV.str s2))), (Option.some (Go.Eng.AV.sc (Go.Eng.SV.int Go.IntKind.i64 n1))), (Option.some (Go.Eng.AV.sc (Go.Eng.SV.str s3))), (Option.some (Go.Eng.AV.sc (Go.Eng.SV.int Go.IntKind.i64 n2))), (Option.some (Go.Eng.AV.sc (Go.Eng.SV.str s4))), (Option.some (Go.Eng.AV.sc (Go.Eng.SV.slc 0 Option.none b3))), (Option.some (Go.Eng.AV.sc (Go.Eng.SV.int Go.IntKind.i64 n3))), (Option.some (Go.Eng.AV.sc (Go.Eng.SV.int Go.IntKind.i64 n4)))] [(Option.some (Go.Eng.HE.mk Bool.false (Go.Eng.HB.rows (Go.Sa.B.iFirmTable l1))))] =
      s_impl_PutTables_w_0 N s2 n1 n2 b3 n3 l1 s3 s4 n4 (fun s3 s4 n4 => AG [(Option.some (Go.Eng.AV.sc (Go.Eng.SV.str s2))), (Option.some (Go.Eng.AV.sc (Go.Eng.SV.int Go.IntKind.i64 n1))), (Option.some (Go.Eng.AV.sc (Go.Eng.SV.str s3))), (Option.some (Go.Eng.AV.sc (Go.Eng.SV.int Go.IntKind.i64 n2))), (Option.some (Go.Eng.AV.sc (Go.Eng.SV.str s4))), (Option.some (Go.Eng.AV.sc (Go.Eng.SV.slc 0 Option.none b3))), (Option.some (Go.Eng.AV.sc (Go.Eng.SV.int Go.IntKind.i64 n3))), (Option.some (Go.Eng.AV.sc (Go.Eng.SV.int Go.IntKind.i64 n4)))] [(Option.some (Go.Eng.HE.mk Bool.false (Go.Eng.HB.rows (Go.Sa.B.iFirmTable l1))))])  (fun s13 s14 => KL Go.Eng.Ex.normal [(Option.some (Go.Eng.AV.sc (Go.Eng.SV.str s2))), (Option.some (Go.Eng.AV.sc (Go.Eng.SV.int Go.IntKind.i64 n1))), (Option.some (Go.Eng.AV.sc (Go.Eng.SV.str s13))), (Option.some (Go.Eng.AV.sc (Go.Eng.SV.str s14)))] [(Option.some (Go.Eng.HE.mk Bool.false (Go.Eng.HB.rows (Go.Sa.B.iFirmTable l1))))]) := by kernel_rfl
theorem le_impl_PutTables_w_0 (N : Nat) {R : Type} (s2 : ByteArray) (n1 : Int) (n2 : Int) (b3 : Bool) (n3 : Int) (l1 : List Go.Sa.FirmTable) (KL : Ex → List (Option AV) → Hp E → Option R) : ∀ (f : Nat), ∀ (s3 : ByteArray) (s4 : ByteArray) (n4 : Int), iterK (E := E) (O_impl_PutTables_w N) (fun {R} => LI (noIt) 1 111 sl_impl_PutTables_w (R := R)) J_impl_PutTables_w 1 111 0 [0, 1, 7, 8, 9, 46, 47, 48] [0, 1, 7, 9] (body Go.Proofs.Try.f56 0) f [(Option.some (Go.Eng.AV.sc (Go.Eng.SV.str s2))), (Option.some (Go.Eng.AV.sc (Go.Eng.SV.int Go.IntKind.i64 n1))), (Option.some (Go.Eng.AV.sc (Go.Eng.SV.str s3))), (Option.some (Go.Eng.AV.sc (Go.Eng.SV.int Go.IntKind.i64 n2))), (Option.some (Go.Eng.AV.sc (Go.Eng.SV.str s4))), (Option.some (Go.Eng.AV.sc (Go.Eng.SV.slc 0 Option.none b3))), (Option.some (Go.Eng.AV.sc (Go.Eng.SV.int Go.IntKind.i64 n3))), (Option.some (Go.Eng.AV.sc (Go.Eng.SV.int Go.IntKind.i64 n4)))] [(Option.some (Go.Eng.HE.mk Bool.false (Go.Eng.HB.rows (Go.Sa.B.iFirmTable l1))))] KL = l_impl_PutTables_w_0 N s2 n1 n2 b3 n3 l1 (fun s13 s14 => KL Go.Eng.Ex.normal [(Option.some (Go.Eng.AV.sc (Go.Eng.SV.str s2))), (Option.some (Go.Eng.AV.sc (Go.Eng.SV.int Go.IntKind.i64 n1))), (Option.some (Go.Eng.AV.sc (Go.Eng.SV.str s13))), (Option.some (Go.Eng.AV.sc (Go.Eng.SV.str s14)))] [(Option.some (Go.Eng.HE.mk Bool.false (Go.Eng.HB.rows (Go.Sa.B.iFirmTable l1))))]) f s3 s4 n4 := by
  intro f
  induction f with
  | zero => intros; rfl
  | succ f ih =>
    intro s3 s4 n4
    rw [iterK_succ, se_impl_PutTables_w_0]
    exact (congrArg (fun z0 => s_impl_PutTables_w_0 N s2 n1 n2 b3 n3 l1 s3 s4 n4 z0 (fun s13 s14 => KL Go.Eng.Ex.normal [(Option.some (Go.Eng.AV.sc (Go.Eng.SV.str s2))), (Option.some (Go.Eng.AV.sc (Go.Eng.SV.int Go.IntKind.i64 n1))), (Option.some (Go.Eng.AV.sc (Go.Eng.SV.str s13))), (Option.some (Go.Eng.AV.sc (Go.Eng.SV.str s14)))] [(Option.some (Go.Eng.HE.mk Bool.false (Go.Eng.HB.rows (Go.Sa.B.iFirmTable l1))))])) (funext fun s3 => funext fun s4 => funext fun n4 => ih s3 s4 n4))
def i_impl_PutTables_w_0 (N : Nat) {R : Type} (vs : List (Option AV)) (H : Hp E) (KL : Ex → List (Option AV) → Hp E → Option R) : Option R :=
  match vs, H with
  | [(Option.some (Go.Eng.AV.sc (Go.Eng.SV.str s2))), (Option.some (Go.Eng.AV.sc (Go.Eng.SV.int Go.IntKind.i64 n1))), (Option.some (Go.Eng.AV.sc (Go.Eng.SV.str s3))), (Option.some (Go.Eng.AV.sc (Go.Eng.SV.int Go.IntKind.i64 n2))), (Option.some (Go.Eng.AV.sc (Go.Eng.SV.str s4))), (Option.some (Go.Eng.AV.sc (Go.Eng.SV.slc 0 Option.none b3))), (Option.some (Go.Eng.AV.sc (Go.Eng.SV.int Go.IntKind.i64 n3))), (Option.some (Go.Eng.AV.sc (Go.Eng.SV.int Go.IntKind.i64 n4)))], [(Option.some (Go.Eng.HE.mk Bool.false (Go.Eng.HB.rows (Go.Sa.B.iFirmTable l1))))] => c_impl_PutTables_w_0 N s2 n1 n2 b3 n3 l1 s3 s4 n4 (fun s15 s16 => KL Go.Eng.Ex.normal [(Option.some (Go.Eng.AV.sc (Go.Eng.SV.str s2))), (Option.some (Go.Eng.AV.sc (Go.Eng.SV.int Go.IntKind.i64 n1))), (Option.some (Go.Eng.AV.sc (Go.Eng.SV.str s15))), (Option.some (Go.Eng.AV.sc (Go.Eng.SV.str s16)))] [(Option.some (Go.Eng.HE.mk Bool.false (Go.Eng.HB.rows (Go.Sa.B.iFirmTable l1))))])
  | _, _ => none
noncomputable def IT_impl_PutTables_w_0 (N : Nat) : Its E := addIt 0 (i_impl_PutTables_w_0 N) (noIt)
theorem IT_impl_PutTables_w_0_ok (N : Nat) : ItOk (IT_impl_PutTables_w_0 N) 1 111 sl_impl_PutTables_w (lsB Go.Proofs.Try.f56 [0]) :=
  addItB_ok (inner := []) ok (O_impl_PutTables_w_ok N) (jn_ok _ _) (noIt_ok) rfl (by kernel_rfl) rfl fun vs H KL r h => by
    unfold i_impl_PutTables_w_0 at h
    split at h
    · exact ⟨_, (le_impl_PutTables_w_0 N _ _ _ _ _ _ KL N _ _ _).trans h⟩
    · cases h
def g_impl_PutTables_w (N : Nat) {R : Type} (s : ByteArray) (n : Int) (b : Bool) (l : List Go.Sa.FirmTable) (k : ByteArray → Option R) : Option R :=
  (oK (g_impl_ymemOk N s fun b1 =>
    (cond (!b1)
    (some Bool.true)
    (cond (decide ((n < (0 : Int))))
      (some Bool.true)
      (cond ((Int.tmod n (4 : Int)) != (0 : Int))
        (some Bool.true)
        (cond (decide (((((List.length l) : Nat) : Int) > (10 : Int))))
          (some Bool.true)
          (g_slices_ContainsFunc_FirmTable_Fimpl_PutTables_1_r N b l fun b2 =>
            (some b2))))))) fun j =>
  (cond j
  (k (ByteArray.mk (List.toArray [])))
  (g_impl_PutWord N (((List.length l) : Nat) : Int) fun s1 =>
    (cond (Nat.ble (4 + (ByteArray.size s1)) 9223372036854775807)
    (c_impl_PutTables_w_0 N s n (Go.IntKind.wrap Go.IntKind.i64 ((Go.IntKind.wrap Go.IntKind.i64 (n + (12 : Int))) + (Go.IntKind.wrap Go.IntKind.i64 ((4 : Int) * (((List.length l) : Nat) : Int))))) b (((List.length l) : Nat) : Int) l ((ByteArray.mk (List.toArray [(70 : UInt8), (73 : UInt8), (82 : UInt8), (77 : UInt8)])) ++ s1) (ByteArray.mk (List.toArray [])) (0 : Int) fun s8 s9 =>
      (g_impl_ywordSum N s8 fun n6 =>
      (g_impl_PutWord N (Go.IntKind.wrap Go.IntKind.i64 ((0 : Int) - n6)) fun s10 =>
      (cond (Nat.ble ((ByteArray.size s8) + (ByteArray.size s10)) 9223372036854775807)
      (cond (Nat.ble ((ByteArray.size (s8 ++ s10)) + (ByteArray.size s9)) 9223372036854775807)
        (g_impl_yfits N (((ByteArray.size s) : Nat) : Int) n (((ByteArray.size ((s8 ++ s10) ++ s9)) : Nat) : Int) fun b4 =>
          (cond (!b4)
          (k (ByteArray.mk (List.toArray [])))
          (g_impl_ysplice N s n ((s8 ++ s10) ++ s9) fun s11 =>
            (k s11))))
        none)
      none))))
    none))))
theorem e_impl_PutTables_w (N : Nat) {R : Type} (s : ByteArray) (n : Int) (b : Bool) (l : List Go.Sa.FirmTable) (K : AV → Hp E → Option R) :
    runFnI (E := E) (O_impl_PutTables_w N) (IT_impl_PutTables_w_0 N) sl_impl_PutTables_w J_impl_PutTables_w Go.Proofs.Try.f56 [(Go.Eng.AV.sc (Go.Eng.SV.str s)), (Go.Eng.AV.sc (Go.Eng.SV.int Go.IntKind.i64 n)), (Go.Eng.AV.sc (Go.Eng.SV.slc 0 Option.none b))] [(Option.some (Go.Eng.HE.mk Bool.false (Go.Eng.HB.rows (Go.Sa.B.iFirmTable l))))] K =
      g_impl_PutTables_w N s n b l (fun s12 => K (Go.Eng.AV.sc (Go.Eng.SV.str s12)) [(Option.some (Go.Eng.HE.mk Bool.false (Go.Eng.HB.rows (Go.Sa.B.iFirmTable l))))]) := by kernel_rfl
def o_impl_PutTables_w (N : Nat) {R : Type} (args : List AV) (H : Hp E) (K : AV → Hp E → Option R) : Option R :=
  match args, H with
  | [(Go.Eng.AV.sc (Go.Eng.SV.str s)), (Go.Eng.AV.sc (Go.Eng.SV.int Go.IntKind.i64 n)), (Go.Eng.AV.sc (Go.Eng.SV.slc 0 Option.none b))], [(Option.some (Go.Eng.HE.mk Bool.false (Go.Eng.HB.rows (Go.Sa.B.iFirmTable l))))] => g_impl_PutTables_w N s n b l (fun s12 => K (Go.Eng.AV.sc (Go.Eng.SV.str s12)) [(Option.some (Go.Eng.HE.mk Bool.false (Go.Eng.HB.rows (Go.Sa.B.iFirmTable l))))])
  | _, _ => none
theorem o_impl_PutTables_w_ok (N : Nat) : FnOk E 56 (o_impl_PutTables_w N) := by
  intro R args H K r h
  unfold o_impl_PutTables_w at h
  dsimp only at h
  split at h
  · exact fnB_ok (ids := [0]) (top := [0]) ok (O_impl_PutTables_w_ok N) (jn_ok _ _) Go.Proofs.Try.func56 (by kernel_rfl) (IT := IT_impl_PutTables_w_0 N) (sl := sl_impl_PutTables_w) (J := J_impl_PutTables_w) (K := K) (H := [(Option.some (Go.Eng.HE.mk Bool.false (Go.Eng.HB.rows (Go.Sa.B.iFirmTable _))))]) (IT_impl_PutTables_w_0_ok N) (by kernel_rfl) rfl ((e_impl_PutTables_w N _ _ _ _ K).trans h)
  · cases h
/-! ### loop.example/g00038/laws.FnExactPutTables -/
abbrev sl_laws_FnExactPutTables_r : SlotT := []
abbrev J_laws_FnExactPutTables_r : JT := jn [] []
noncomputable def O_laws_FnExactPutTables_r (N : Nat) : Orc E := addFn 49 (o_laws_eqFirmTableS_ww N) (addFn 56 (o_impl_PutTables_w N) (addFn 54 (o_spec_PutTables_w N) (addFn 55 (o_laws_toFirmTableS_r N) (addFn 53 (o_laws_szFirmTableS_r N) (noFn)))))
theorem O_laws_FnExactPutTables_r_ok (N : Nat) : OrcOk (O_laws_FnExactPutTables_r N) := addFn_ok (o_laws_eqFirmTableS_ww_ok N) (addFn_ok (o_impl_PutTables_w_ok N) (addFn_ok (o_spec_PutTables_w_ok N) (addFn_ok (o_laws_toFirmTableS_r_ok N) (addFn_ok (o_laws_szFirmTableS_r_ok N) (noFn_ok)))))
def g_laws_FnExactPutTables_r (N : Nat) {R : Type} (s : ByteArray) (n : Int) (b : Bool) (l : List Go.Sa.FirmTable) (k : Bool → Option R) : Option R :=
  (cond (decide (((((ByteArray.size s) : Nat) : Int) > (1048576 : Int))))
  (k Bool.true)
  (g_laws_szFirmTableS_r N b (1048576 : Int) l fun n1 =>
    (cond (decide ((n1 < (0 : Int))))
    (k Bool.true)
    (g_laws_toFirmTableS_r N b l fun l1 =>
      (g_spec_PutTables_w N s n Bool.false l1 fun s1 =>
      (g_laws_toFirmTableS_r N b l fun l2 =>
      (g_impl_PutTables_w N s n Bool.false l2 fun s2 =>
      (cond (!(decide ((s2 = s1))))
      (k Bool.false)
      (g_laws_toFirmTableS_r N b l fun l3 =>
        (g_laws_eqFirmTableS_ww N Bool.false Bool.false l2 l3 fun b1 =>
        (cond (!b1)
        (k Bool.false)
        (k Bool.true))))))))))))
theorem e_laws_FnExactPutTables_r (N : Nat) {R : Type} (s : ByteArray) (n : Int) (b : Bool) (l : List Go.Sa.FirmTable) (K : AV → Hp E → Option R) :
    runFnI (E := E) (O_laws_FnExactPutTables_r N) (noIt) sl_laws_FnExactPutTables_r J_laws_FnExactPutTables_r Go.Proofs.Try.f12 [(Go.Eng.AV.sc (Go.Eng.SV.str s)), (Go.Eng.AV.sc (Go.Eng.SV.int Go.IntKind.i64 n)), (Go.Eng.AV.sc (Go.Eng.SV.slc 0 Option.none b))] [(Option.some (Go.Eng.HE.mk Bool.true (Go.Eng.HB.rows (Go.Sa.B.lFirmTable l))))] K =
      g_laws_FnExactPutTables_r N s n b l (fun b2 => K (Go.Eng.AV.sc (Go.Eng.SV.bool b2)) [(Option.some (Go.Eng.HE.mk Bool.true (Go.Eng.HB.rows (Go.Sa.B.lFirmTable l))))]) := by kernel_rfl
def o_laws_FnExactPutTables_r (N : Nat) {R : Type} (args : List AV) (H : Hp E) (K : AV → Hp E → Option R) : Option R :=
  match args, H with
  | [(Go.Eng.AV.sc (Go.Eng.SV.str s)), (Go.Eng.AV.sc (Go.Eng.SV.int Go.IntKind.i64 n)), (Go.Eng.AV.sc (Go.Eng.SV.slc 0 Option.none b))], [(Option.some (Go.Eng.HE.mk Bool.true (Go.Eng.HB.rows (Go.Sa.B.lFirmTable l))))] => g_laws_FnExactPutTables_r N s n b l (fun b2 => K (Go.Eng.AV.sc (Go.Eng.SV.bool b2)) [(Option.some (Go.Eng.HE.mk Bool.true (Go.Eng.HB.rows (Go.Sa.B.lFirmTable l))))])
  | _, _ => none
theorem o_laws_FnExactPutTables_r_ok (N : Nat) : FnOk E 12 (o_laws_FnExactPutTables_r N) := by
  intro R args H K r h
  unfold o_laws_FnExactPutTables_r at h
  dsimp only at h
  split at h
  · exact fnB_ok (ids := []) (top := []) ok (O_laws_FnExactPutTables_r_ok N) (jn_ok _ _) Go.Proofs.Try.func12 (by kernel_rfl) (IT := noIt) (sl := sl_laws_FnExactPutTables_r) (J := J_laws_FnExactPutTables_r) (K := K) (H := [(Option.some (Go.Eng.HE.mk Bool.true (Go.Eng.HB.rows (Go.Sa.B.lFirmTable _))))]) (noIt_ok) (by kernel_rfl) rfl ((e_laws_FnExactPutTables_r N _ _ _ _ K).trans h)
  · cases h
end Go.Sa
