import Derived.Test.YtaffhdhamfilpaaSpec
import Derived.Test.YtaffhdhamfilpaaPLb
import Derived.Test.YtaffhdhamfilpaaW4
set_option linter.all false
namespace Go.Sa
open Go Go.Eng Go.Proofs
set_option maxRecDepth 100000
set_option maxHeartbeats 4000000
/-! ### loop.example/g00038/impl.PutTables -/
abbrev sl_impl_PutTables_w : SlotT := [(0, ([0, 1, 7, 8, 9, 46, 47, 48], [0, 1, 7, 9]))]
abbrev J_impl_PutTables_w : JT := jn [(1, [(35, .b)])] [] []
noncomputable def O_impl_PutTables_w (N : Nat) : Orc E := addFn 93 (o_impl_ysplice N) (addFn 92 (o_impl_yfits N) (addFn 118 (o_impl_ywordSum N) (addFn 117 (o_impl_ybyteSum N) (addFn 38 (o_impl_PutWord N) (addFn 114 (o_slices_ContainsFunc_FirmTable_Fimpl_PutTables_1_r N) (addFn 75 (o_impl_ymemOk N) (noFn)))))))
noncomputable def pa_impl_PutTables_w__o_impl_ysplice (N : Nat) (G_impl_ysplice : ∀ {R : Type} (s : ByteArray) (n : Int) (s1 : ByteArray) (k : ByteArray → Option R), Option R) {R : Type} (args : List AV) (H : Hp E) (K : AV → Hp E → Option R) : Option R :=
  match args, H with
  | [(AV.sc (SV.str s)), (AV.sc (SV.int IntKind.i64 n)), (AV.sc (SV.str s1))], [] => G_impl_ysplice s n s1 (fun s2 => K (AV.sc (SV.str s2)) [])
  | _, _ => none
noncomputable def pa_impl_PutTables_w__o_impl_yfits (N : Nat) (G_impl_yfits : ∀ {R : Type} (n : Int) (n1 : Int) (n2 : Int) (k : Bool → Option R), Option R) {R : Type} (args : List AV) (H : Hp E) (K : AV → Hp E → Option R) : Option R :=
  match args, H with
  | [(AV.sc (SV.int IntKind.i64 n)), (AV.sc (SV.int IntKind.i64 n1)), (AV.sc (SV.int IntKind.i64 n2))], [] => G_impl_yfits n n1 n2 (fun b => K (AV.sc (SV.bool b)) [])
  | _, _ => none
noncomputable def pa_impl_PutTables_w__o_impl_ywordSum (N : Nat) (G_impl_ywordSum : ∀ {R : Type} (s : ByteArray) (k : Int → Option R), Option R) {R : Type} (args : List AV) (H : Hp E) (K : AV → Hp E → Option R) : Option R :=
  match args, H with
  | [(AV.sc (SV.str s))], [] => G_impl_ywordSum s (fun n5 => K (AV.sc (SV.int IntKind.i64 n5)) [])
  | _, _ => none
noncomputable def pa_impl_PutTables_w__o_impl_ybyteSum (N : Nat) (G_impl_ybyteSum : ∀ {R : Type} (s : ByteArray) (k : Int → Option R), Option R) {R : Type} (args : List AV) (H : Hp E) (K : AV → Hp E → Option R) : Option R :=
  match args, H with
  | [(AV.sc (SV.str s))], [] => G_impl_ybyteSum s (fun n4 => K (AV.sc (SV.int IntKind.i64 n4)) [])
  | _, _ => none
noncomputable def pa_impl_PutTables_w__o_impl_PutWord (N : Nat) (G_impl_PutWord : ∀ {R : Type} (n : Int) (k : ByteArray → Option R), Option R) {R : Type} (args : List AV) (H : Hp E) (K : AV → Hp E → Option R) : Option R :=
  match args, H with
  | [(AV.sc (SV.int IntKind.i64 n))], [] => G_impl_PutWord n (fun s => K (AV.sc (SV.str s)) [])
  | _, _ => none
noncomputable def pa_impl_PutTables_w__o_slices_ContainsFunc_FirmTable_Fimpl_PutTables_1_r (N : Nat) (G_slices_ContainsFunc_FirmTable_Fimpl_PutTables_1_r : ∀ {R : Type} (b : Bool) (l : List FirmTable) (k : Bool → Option R), Option R) {R : Type} (args : List AV) (H : Hp E) (K : AV → Hp E → Option R) : Option R :=
  match args, H with
  | [(AV.sc (SV.slc 0 none b)), (AV.sc (SV.fn 115 []))], [(some (HE.mk true (HB.rows (B.iFirmTable l))))] => G_slices_ContainsFunc_FirmTable_Fimpl_PutTables_1_r b l (fun b1 => K (AV.sc (SV.bool b1)) [(some (HE.mk true (HB.rows (B.iFirmTable l))))])
  | _, _ => none
noncomputable def pa_impl_PutTables_w__o_impl_ymemOk (N : Nat) (G_impl_ymemOk : ∀ {R : Type} (s : ByteArray) (k : Bool → Option R), Option R) {R : Type} (args : List AV) (H : Hp E) (K : AV → Hp E → Option R) : Option R :=
  match args, H with
  | [(AV.sc (SV.str s))], [] => G_impl_ymemOk s (fun b => K (AV.sc (SV.bool b)) [])
  | _, _ => none
noncomputable def OA_impl_PutTables_w (N : Nat) (G_impl_ysplice : ∀ {R : Type} (s : ByteArray) (n : Int) (s1 : ByteArray) (k : ByteArray → Option R), Option R) (G_impl_yfits : ∀ {R : Type} (n : Int) (n1 : Int) (n2 : Int) (k : Bool → Option R), Option R) (G_impl_ywordSum : ∀ {R : Type} (s : ByteArray) (k : Int → Option R), Option R) (G_impl_ybyteSum : ∀ {R : Type} (s : ByteArray) (k : Int → Option R), Option R) (G_impl_PutWord : ∀ {R : Type} (n : Int) (k : ByteArray → Option R), Option R) (G_slices_ContainsFunc_FirmTable_Fimpl_PutTables_1_r : ∀ {R : Type} (b : Bool) (l : List FirmTable) (k : Bool → Option R), Option R) (G_impl_ymemOk : ∀ {R : Type} (s : ByteArray) (k : Bool → Option R), Option R) : Orc E := addFn 93 (pa_impl_PutTables_w__o_impl_ysplice N G_impl_ysplice) (addFn 92 (pa_impl_PutTables_w__o_impl_yfits N G_impl_yfits) (addFn 118 (pa_impl_PutTables_w__o_impl_ywordSum N G_impl_ywordSum) (addFn 117 (pa_impl_PutTables_w__o_impl_ybyteSum N G_impl_ybyteSum) (addFn 38 (pa_impl_PutTables_w__o_impl_PutWord N G_impl_PutWord) (addFn 114 (pa_impl_PutTables_w__o_slices_ContainsFunc_FirmTable_Fimpl_PutTables_1_r N G_slices_ContainsFunc_FirmTable_Fimpl_PutTables_1_r) (addFn 75 (pa_impl_PutTables_w__o_impl_ymemOk N G_impl_ymemOk) (noFn)))))))
theorem O_impl_PutTables_w_ok (N : Nat) : OrcOk (O_impl_PutTables_w N) := addFn_ok (o_impl_ysplice_ok N) (addFn_ok (o_impl_yfits_ok N) (addFn_ok (o_impl_ywordSum_ok N) (addFn_ok (o_impl_ybyteSum_ok N) (addFn_ok (o_impl_PutWord_ok N) (addFn_ok (o_slices_ContainsFunc_FirmTable_Fimpl_PutTables_1_r_ok N) (addFn_ok (o_impl_ymemOk_ok N) (noFn_ok)))))))
noncomputable def s_impl_PutTables_w_0 (N : Nat) {R : Type} (s2 : ByteArray) (n1 : Int) (n2 : Int) (b3 : Bool) (n3 : Int) (l1 : List FirmTable) (s3 : ByteArray) (s4 : ByteArray) (n4 : Int) (ag : ByteArray → ByteArray → Int → Option R)  (kN : ByteArray → ByteArray → Option R) : Option R :=
  (cond (decide ((n4 < n3)))
  (cond ((decide (((0 : Int) ≤ n4))) && (decide ((n4 < (((List.length l1) : Nat) : Int)))))
    (elemK l1 (Int.toNat n4) fun x =>
      (g_impl_PutWord N (IntKind.wrap IntKind.i64 (n2 + (((ByteArray.size s4) : Nat) : Int))) fun s5 =>
      (cond (Nat.ble ((ByteArray.size s3) + (ByteArray.size s5)) 9223372036854775807)
      (g_impl_PutWord N (IntKind.wrap IntKind.i64 (((BitVec.toNat ((BitVec.ofInt 64 (IntKind.wrap IntKind.i64 ((IntKind.wrap IntKind.i64 ((8 : Int) + (((ByteArray.size (FirmTable.fBody x)) : Nat) : Int))) * (65536 : Int)))) ||| (BitVec.ofInt 64 (IntKind.wrap IntKind.i64 ((FirmTable.fRev x) * (256 : Int)))))) : Nat) : Int)) fun s6 =>
        (cond (Nat.ble ((ByteArray.size (FirmTable.fName x)) + (ByteArray.size s6)) 9223372036854775807)
        (cond (Nat.ble ((ByteArray.size ((FirmTable.fName x) ++ s6)) + (ByteArray.size (FirmTable.fBody x))) 9223372036854775807)
          (g_impl_ybyteSum N (((FirmTable.fName x) ++ s6) ++ (FirmTable.fBody x)) fun n5 =>
            (g_impl_PutWord N (IntKind.wrap IntKind.i64 (((BitVec.toNat ((BitVec.ofInt 64 (IntKind.wrap IntKind.i64 (((BitVec.toNat ((BitVec.ofInt 64 (IntKind.wrap IntKind.i64 ((IntKind.wrap IntKind.i64 ((8 : Int) + (((ByteArray.size (FirmTable.fBody x)) : Nat) : Int))) * (65536 : Int)))) ||| (BitVec.ofInt 64 (IntKind.wrap IntKind.i64 ((FirmTable.fRev x) * (256 : Int)))))) : Nat) : Int))) ||| (BitVec.ofInt 64 (IntKind.wrap IntKind.i64 (((BitVec.toNat ((BitVec.ofInt 64 (IntKind.wrap IntKind.i64 ((256 : Int) - n5))) &&& (BitVec.ofInt 64 (255 : Int)))) : Nat) : Int))))) : Nat) : Int)) fun s7 =>
            (cond (Nat.ble ((ByteArray.size (FirmTable.fName x)) + (ByteArray.size s7)) 9223372036854775807)
            (cond (Nat.ble ((ByteArray.size ((FirmTable.fName x) ++ s7)) + (ByteArray.size (FirmTable.fBody x))) 9223372036854775807)
              (cond (Nat.ble ((ByteArray.size s4) + (ByteArray.size (((FirmTable.fName x) ++ s7) ++ (FirmTable.fBody x)))) 9223372036854775807)
                (ag (s3 ++ s5) (s4 ++ (((FirmTable.fName x) ++ s7) ++ (FirmTable.fBody x))) (IntKind.wrap IntKind.i64 (n4 + (1 : Int))))
                none)
              none)
            none)))
          none)
        none))
      none)))
    none)
  (kN s3 s4))
noncomputable def ga_s_impl_PutTables_w_0 (N : Nat) (G_impl_ysplice : ∀ {R : Type} (s : ByteArray) (n : Int) (s1 : ByteArray) (k : ByteArray → Option R), Option R) (G_impl_yfits : ∀ {R : Type} (n : Int) (n1 : Int) (n2 : Int) (k : Bool → Option R), Option R) (G_impl_ywordSum : ∀ {R : Type} (s : ByteArray) (k : Int → Option R), Option R) (G_impl_ybyteSum : ∀ {R : Type} (s : ByteArray) (k : Int → Option R), Option R) (G_impl_PutWord : ∀ {R : Type} (n : Int) (k : ByteArray → Option R), Option R) (G_slices_ContainsFunc_FirmTable_Fimpl_PutTables_1_r : ∀ {R : Type} (b : Bool) (l : List FirmTable) (k : Bool → Option R), Option R) (G_impl_ymemOk : ∀ {R : Type} (s : ByteArray) (k : Bool → Option R), Option R) {R : Type} (s2 : ByteArray) (n1 : Int) (n2 : Int) (b3 : Bool) (n3 : Int) (l1 : List FirmTable) (s3 : ByteArray) (s4 : ByteArray) (n4 : Int) (ag : ByteArray → ByteArray → Int → Option R)  (kN : ByteArray → ByteArray → Option R) : Option R :=
  (cond (decide ((n4 < n3)))
  (cond ((decide (((0 : Int) ≤ n4))) && (decide ((n4 < (((List.length l1) : Nat) : Int)))))
    (elemK l1 (Int.toNat n4) fun x =>
      (G_impl_PutWord (IntKind.wrap IntKind.i64 (n2 + (((ByteArray.size s4) : Nat) : Int))) fun s5 =>
      (cond (Nat.ble ((ByteArray.size s3) + (ByteArray.size s5)) 9223372036854775807)
      (G_impl_PutWord (IntKind.wrap IntKind.i64 (((BitVec.toNat ((BitVec.ofInt 64 (IntKind.wrap IntKind.i64 ((IntKind.wrap IntKind.i64 ((8 : Int) + (((ByteArray.size (FirmTable.fBody x)) : Nat) : Int))) * (65536 : Int)))) ||| (BitVec.ofInt 64 (IntKind.wrap IntKind.i64 ((FirmTable.fRev x) * (256 : Int)))))) : Nat) : Int)) fun s6 =>
        (cond (Nat.ble ((ByteArray.size (FirmTable.fName x)) + (ByteArray.size s6)) 9223372036854775807)
        (cond (Nat.ble ((ByteArray.size ((FirmTable.fName x) ++ s6)) + (ByteArray.size (FirmTable.fBody x))) 9223372036854775807)
          (G_impl_ybyteSum (((FirmTable.fName x) ++ s6) ++ (FirmTable.fBody x)) fun n5 =>
            (G_impl_PutWord (IntKind.wrap IntKind.i64 (((BitVec.toNat ((BitVec.ofInt 64 (IntKind.wrap IntKind.i64 (((BitVec.toNat ((BitVec.ofInt 64 (IntKind.wrap IntKind.i64 ((IntKind.wrap IntKind.i64 ((8 : Int) + (((ByteArray.size (FirmTable.fBody x)) : Nat) : Int))) * (65536 : Int)))) ||| (BitVec.ofInt 64 (IntKind.wrap IntKind.i64 ((FirmTable.fRev x) * (256 : Int)))))) : Nat) : Int))) ||| (BitVec.ofInt 64 (IntKind.wrap IntKind.i64 (((BitVec.toNat ((BitVec.ofInt 64 (IntKind.wrap IntKind.i64 ((256 : Int) - n5))) &&& (BitVec.ofInt 64 (255 : Int)))) : Nat) : Int))))) : Nat) : Int)) fun s7 =>
            (cond (Nat.ble ((ByteArray.size (FirmTable.fName x)) + (ByteArray.size s7)) 9223372036854775807)
            (cond (Nat.ble ((ByteArray.size ((FirmTable.fName x) ++ s7)) + (ByteArray.size (FirmTable.fBody x))) 9223372036854775807)
              (cond (Nat.ble ((ByteArray.size s4) + (ByteArray.size (((FirmTable.fName x) ++ s7) ++ (FirmTable.fBody x)))) 9223372036854775807)
                (ag (s3 ++ s5) (s4 ++ (((FirmTable.fName x) ++ s7) ++ (FirmTable.fBody x))) (IntKind.wrap IntKind.i64 (n4 + (1 : Int))))
                none)
              none)
            none)))
          none)
        none))
      none)))
    none)
  (kN s3 s4))
noncomputable def l_impl_PutTables_w_0 (N : Nat) {R : Type} (s2 : ByteArray) (n1 : Int) (n2 : Int) (b3 : Bool) (n3 : Int) (l1 : List FirmTable) (kN : ByteArray → ByteArray → Option R) : Nat → ByteArray → ByteArray → Int → Option R
  | 0, _, _, _ => none
  | f + 1, s3, s4, n4 => s_impl_PutTables_w_0 N s2 n1 n2 b3 n3 l1 s3 s4 n4 (fun s3 s4 n4 => l_impl_PutTables_w_0 N s2 n1 n2 b3 n3 l1 kN f s3 s4 n4)  kN
noncomputable def c_impl_PutTables_w_0 (N : Nat) {R : Type} (s2 : ByteArray) (n1 : Int) (n2 : Int) (b3 : Bool) (n3 : Int) (l1 : List FirmTable) (s3 : ByteArray) (s4 : ByteArray) (n4 : Int) (kN : ByteArray → ByteArray → Option R) : Option R := l_impl_PutTables_w_0 N s2 n1 n2 b3 n3 l1 kN N s3 s4 n4
theorem ea_se_impl_PutTables_w_0 (N : Nat) (G_impl_ysplice : ∀ {R : Type} (s : ByteArray) (n : Int) (s1 : ByteArray) (k : ByteArray → Option R), Option R) (G_impl_yfits : ∀ {R : Type} (n : Int) (n1 : Int) (n2 : Int) (k : Bool → Option R), Option R) (G_impl_ywordSum : ∀ {R : Type} (s : ByteArray) (k : Int → Option R), Option R) (G_impl_ybyteSum : ∀ {R : Type} (s : ByteArray) (k : Int → Option R), Option R) (G_impl_PutWord : ∀ {R : Type} (n : Int) (k : ByteArray → Option R), Option R) (G_slices_ContainsFunc_FirmTable_Fimpl_PutTables_1_r : ∀ {R : Type} (b : Bool) (l : List FirmTable) (k : Bool → Option R), Option R) (G_impl_ymemOk : ∀ {R : Type} (s : ByteArray) (k : Bool → Option R), Option R) {R : Type} (s2 : ByteArray) (n1 : Int) (n2 : Int) (b3 : Bool) (n3 : Int) (l1 : List FirmTable) (s3 : ByteArray) (s4 : ByteArray) (n4 : Int) (AG : List (Option AV) → Hp E → Option R) (KL : Ex → List (Option AV) → Hp E → Option R) :
    iterStep (E := E) (OA_impl_PutTables_w N G_impl_ysplice G_impl_yfits G_impl_ywordSum G_impl_ybyteSum G_impl_PutWord G_slices_ContainsFunc_FirmTable_Fimpl_PutTables_1_r G_impl_ymemOk) (fun {R} => LI (noIt) 1 111 sl_impl_PutTables_w (R := R)) J_impl_PutTables_w 1 111 0 [0, 1, 7, 8, 9, 46, 47, 48] [0, 1, 7, 9] (body Go.Proofs.Try.f95 0) AG KL [(some (AV.sc (SV.str s2))), (some (AV.sc (SV.int IntKind.i64 n1))), (some (AV.sc (SV.str s3))), (some (AV.sc (SV.int IntKind.i64 n2))), (some (AV.sc (SV.str s4))), (some (AV.sc (SV.slc 0 none b3))), (some (AV.sc (SV.int IntKind.i64 n3))), (some (AV.sc (SV.int IntKind.i64 n4)))] [(some (HE.mk false (HB.rows (B.iFirmTable l1))))] =
      ga_s_impl_PutTables_w_0 N G_impl_ysplice G_impl_yfits G_impl_ywordSum G_impl_ybyteSum G_impl_PutWord G_slices_ContainsFunc_FirmTable_Fimpl_PutTables_1_r G_impl_ymemOk s2 n1 n2 b3 n3 l1 s3 s4 n4 (fun s3 s4 n4 => AG [(some (AV.sc (SV.str s2))), (some (AV.sc (SV.int IntKind.i64 n1))), (some (AV.sc (SV.str s3))), (some (AV.sc (SV.int IntKind.i64 n2))), (some (AV.sc (SV.str s4))), (some (AV.sc (SV.slc 0 none b3))), (some (AV.sc (SV.int IntKind.i64 n3))), (some (AV.sc (SV.int IntKind.i64 n4)))] [(some (HE.mk false (HB.rows (B.iFirmTable l1))))])  (fun s13 s14 => KL Ex.normal [(some (AV.sc (SV.str s2))), (some (AV.sc (SV.int IntKind.i64 n1))), (some (AV.sc (SV.str s13))), (some (AV.sc (SV.str s14)))] [(some (HE.mk false (HB.rows (B.iFirmTable l1))))]) := by kernel_rfl
theorem se_impl_PutTables_w_0 (N : Nat) {R : Type} (s2 : ByteArray) (n1 : Int) (n2 : Int) (b3 : Bool) (n3 : Int) (l1 : List FirmTable) (s3 : ByteArray) (s4 : ByteArray) (n4 : Int) (AG : List (Option AV) → Hp E → Option R) (KL : Ex → List (Option AV) → Hp E → Option R) :
    iterStep (E := E) (O_impl_PutTables_w N) (fun {R} => LI (noIt) 1 111 sl_impl_PutTables_w (R := R)) J_impl_PutTables_w 1 111 0 [0, 1, 7, 8, 9, 46, 47, 48] [0, 1, 7, 9] (body Go.Proofs.Try.f95 0) AG KL [(some (AV.sc (SV.str s2))), (some (AV.sc (SV.int IntKind.i64 n1))), (some (AV.sc (SV.str s3))), (some (AV.sc (SV.int IntKind.i64 n2))), (some (AV.sc (SV.str s4))), (some (AV.sc (SV.slc 0 none b3))), (some (AV.sc (SV.int IntKind.i64 n3))), (some (AV.sc (SV.int IntKind.i64 n4)))] [(some (HE.mk false (HB.rows (B.iFirmTable l1))))] =
      s_impl_PutTables_w_0 N s2 n1 n2 b3 n3 l1 s3 s4 n4 (fun s3 s4 n4 => AG [(some (AV.sc (SV.str s2))), (some (AV.sc (SV.int IntKind.i64 n1))), (some (AV.sc (SV.str s3))), (some (AV.sc (SV.int IntKind.i64 n2))), (some (AV.sc (SV.str s4))), (some (AV.sc (SV.slc 0 none b3))), (some (AV.sc (SV.int IntKind.i64 n3))), (some (AV.sc (SV.int IntKind.i64 n4)))] [(some (HE.mk false (HB.rows (B.iFirmTable l1))))])  (fun s13 s14 => KL Ex.normal [(some (AV.sc (SV.str s2))), (some (AV.sc (SV.int IntKind.i64 n1))), (some (AV.sc (SV.str s13))), (some (AV.sc (SV.str s14)))] [(some (HE.mk false (HB.rows (B.iFirmTable l1))))]) := castPr (by kernel_rfl) (ea_se_impl_PutTables_w_0 N (g_impl_ysplice N) (g_impl_yfits N) (g_impl_ywordSum N) (g_impl_ybyteSum N) (g_impl_PutWord N) (g_slices_ContainsFunc_FirmTable_Fimpl_PutTables_1_r N) (g_impl_ymemOk N) s2 n1 n2 b3 n3 l1 s3 s4 n4 AG KL)
theorem le_impl_PutTables_w_0 (N : Nat) {R : Type} (s2 : ByteArray) (n1 : Int) (n2 : Int) (b3 : Bool) (n3 : Int) (l1 : List FirmTable) (KL : Ex → List (Option AV) → Hp E → Option R) : ∀ (f : Nat), ∀ (s3 : ByteArray) (s4 : ByteArray) (n4 : Int), iterK (E := E) (O_impl_PutTables_w N) (fun {R} => LI (noIt) 1 111 sl_impl_PutTables_w (R := R)) J_impl_PutTables_w 1 111 0 [0, 1, 7, 8, 9, 46, 47, 48] [0, 1, 7, 9] (body Go.Proofs.Try.f95 0) f [(some (AV.sc (SV.str s2))), (some (AV.sc (SV.int IntKind.i64 n1))), (some (AV.sc (SV.str s3))), (some (AV.sc (SV.int IntKind.i64 n2))), (some (AV.sc (SV.str s4))), (some (AV.sc (SV.slc 0 none b3))), (some (AV.sc (SV.int IntKind.i64 n3))), (some (AV.sc (SV.int IntKind.i64 n4)))] [(some (HE.mk false (HB.rows (B.iFirmTable l1))))] KL = l_impl_PutTables_w_0 N s2 n1 n2 b3 n3 l1 (fun s13 s14 => KL Ex.normal [(some (AV.sc (SV.str s2))), (some (AV.sc (SV.int IntKind.i64 n1))), (some (AV.sc (SV.str s13))), (some (AV.sc (SV.str s14)))] [(some (HE.mk false (HB.rows (B.iFirmTable l1))))]) f s3 s4 n4 := by
  intro f
  induction f with
  | zero => intros; rfl
  | succ f ih =>
    intro s3 s4 n4
    rw [iterK_succ, se_impl_PutTables_w_0]
    exact (congrArg (fun z0 => s_impl_PutTables_w_0 N s2 n1 n2 b3 n3 l1 s3 s4 n4 z0 (fun s13 s14 => KL Ex.normal [(some (AV.sc (SV.str s2))), (some (AV.sc (SV.int IntKind.i64 n1))), (some (AV.sc (SV.str s13))), (some (AV.sc (SV.str s14)))] [(some (HE.mk false (HB.rows (B.iFirmTable l1))))])) (funext fun s3 => funext fun s4 => funext fun n4 => ih s3 s4 n4))
noncomputable def i_impl_PutTables_w_0 (N : Nat) {R : Type} (vs : List (Option AV)) (H : Hp E) (KL : Ex → List (Option AV) → Hp E → Option R) : Option R :=
  match vs, H with
  | [(some (AV.sc (SV.str s2))), (some (AV.sc (SV.int IntKind.i64 n1))), (some (AV.sc (SV.str s3))), (some (AV.sc (SV.int IntKind.i64 n2))), (some (AV.sc (SV.str s4))), (some (AV.sc (SV.slc 0 none b3))), (some (AV.sc (SV.int IntKind.i64 n3))), (some (AV.sc (SV.int IntKind.i64 n4)))], [(some (HE.mk false (HB.rows (B.iFirmTable l1))))] => c_impl_PutTables_w_0 N s2 n1 n2 b3 n3 l1 s3 s4 n4 (fun s15 s16 => KL Ex.normal [(some (AV.sc (SV.str s2))), (some (AV.sc (SV.int IntKind.i64 n1))), (some (AV.sc (SV.str s15))), (some (AV.sc (SV.str s16)))] [(some (HE.mk false (HB.rows (B.iFirmTable l1))))])
  | _, _ => none
noncomputable def IT_impl_PutTables_w_0 (N : Nat) : Its E := addIt 0 (i_impl_PutTables_w_0 N) (noIt)
theorem IT_impl_PutTables_w_0_ok (N : Nat) : ItOk (IT_impl_PutTables_w_0 N) 1 111 sl_impl_PutTables_w (lsB Go.Proofs.Try.f95 [0]) :=
  addItB_ok (inner := []) ok (O_impl_PutTables_w_ok N) (jn_ok _ _ _) (noIt_ok) rfl (by kernel_rfl) rfl fun vs H KL r h => by
    unfold i_impl_PutTables_w_0 at h
    split at h
    · exact ⟨_, (le_impl_PutTables_w_0 N _ _ _ _ _ _ KL N _ _ _).trans h⟩
    · cases h
noncomputable def g_impl_PutTables_w (N : Nat) {R : Type} (s : ByteArray) (n : Int) (b : Bool) (l : List FirmTable) (k : ByteArray → Option R) : Option R :=
  (oK (g_impl_ymemOk N s fun b1 =>
    (cond (!b1)
    (some true)
    (cond (decide ((n < (0 : Int))))
      (some true)
      (cond ((Int.tmod n (4 : Int)) != (0 : Int))
        (some true)
        (cond (decide (((((List.length l) : Nat) : Int) > (10 : Int))))
          (some true)
          (g_slices_ContainsFunc_FirmTable_Fimpl_PutTables_1_r N b l fun b2 =>
            (some b2))))))) fun j =>
  (cond j
  (k (ByteArray.mk (List.toArray [])))
  (g_impl_PutWord N (((List.length l) : Nat) : Int) fun s1 =>
    (cond (Nat.ble (4 + (ByteArray.size s1)) 9223372036854775807)
    (c_impl_PutTables_w_0 N s n (IntKind.wrap IntKind.i64 ((IntKind.wrap IntKind.i64 (n + (12 : Int))) + (IntKind.wrap IntKind.i64 ((4 : Int) * (((List.length l) : Nat) : Int))))) b (((List.length l) : Nat) : Int) l ((ByteArray.mk (List.toArray [(70 : UInt8), (73 : UInt8), (82 : UInt8), (77 : UInt8)])) ++ s1) (ByteArray.mk (List.toArray [])) (0 : Int) fun s8 s9 =>
      (g_impl_ywordSum N s8 fun n6 =>
      (g_impl_PutWord N (IntKind.wrap IntKind.i64 ((0 : Int) - n6)) fun s10 =>
      (cond (Nat.ble ((ByteArray.size s8) + (ByteArray.size s10)) 9223372036854775807)
      (cond (Nat.ble ((ByteArray.size (s8 ++ s10)) + (ByteArray.size s9)) 9223372036854775807)
        (g_impl_yfits N (((ByteArray.size s) : Nat) : Int) n (((ByteArray.size ((s8 ++ s10) ++ s9)) : Nat) : Int) fun b4 =>
          (cond (!b4)
          (k (ByteArray.mk (List.toArray [])))
          (g_impl_ysplice N s n ((s8 ++ s10) ++ s9) fun s11 =>
            (k s11))))
        none)
      none))))
    none))))
noncomputable def ga_g_impl_PutTables_w (N : Nat) (G_impl_ysplice : ∀ {R : Type} (s : ByteArray) (n : Int) (s1 : ByteArray) (k : ByteArray → Option R), Option R) (G_impl_yfits : ∀ {R : Type} (n : Int) (n1 : Int) (n2 : Int) (k : Bool → Option R), Option R) (G_impl_ywordSum : ∀ {R : Type} (s : ByteArray) (k : Int → Option R), Option R) (G_impl_ybyteSum : ∀ {R : Type} (s : ByteArray) (k : Int → Option R), Option R) (G_impl_PutWord : ∀ {R : Type} (n : Int) (k : ByteArray → Option R), Option R) (G_slices_ContainsFunc_FirmTable_Fimpl_PutTables_1_r : ∀ {R : Type} (b : Bool) (l : List FirmTable) (k : Bool → Option R), Option R) (G_impl_ymemOk : ∀ {R : Type} (s : ByteArray) (k : Bool → Option R), Option R) {R : Type} (s : ByteArray) (n : Int) (b : Bool) (l : List FirmTable) (k : ByteArray → Option R) : Option R :=
  (oK (G_impl_ymemOk s fun b1 =>
    (cond (!b1)
    (some true)
    (cond (decide ((n < (0 : Int))))
      (some true)
      (cond ((Int.tmod n (4 : Int)) != (0 : Int))
        (some true)
        (cond (decide (((((List.length l) : Nat) : Int) > (10 : Int))))
          (some true)
          (G_slices_ContainsFunc_FirmTable_Fimpl_PutTables_1_r b l fun b2 =>
            (some b2))))))) fun j =>
  (cond j
  (k (ByteArray.mk (List.toArray [])))
  (G_impl_PutWord (((List.length l) : Nat) : Int) fun s1 =>
    (cond (Nat.ble (4 + (ByteArray.size s1)) 9223372036854775807)
    (c_impl_PutTables_w_0 N s n (IntKind.wrap IntKind.i64 ((IntKind.wrap IntKind.i64 (n + (12 : Int))) + (IntKind.wrap IntKind.i64 ((4 : Int) * (((List.length l) : Nat) : Int))))) b (((List.length l) : Nat) : Int) l ((ByteArray.mk (List.toArray [(70 : UInt8), (73 : UInt8), (82 : UInt8), (77 : UInt8)])) ++ s1) (ByteArray.mk (List.toArray [])) (0 : Int) fun s8 s9 =>
      (G_impl_ywordSum s8 fun n6 =>
      (G_impl_PutWord (IntKind.wrap IntKind.i64 ((0 : Int) - n6)) fun s10 =>
      (cond (Nat.ble ((ByteArray.size s8) + (ByteArray.size s10)) 9223372036854775807)
      (cond (Nat.ble ((ByteArray.size (s8 ++ s10)) + (ByteArray.size s9)) 9223372036854775807)
        (G_impl_yfits (((ByteArray.size s) : Nat) : Int) n (((ByteArray.size ((s8 ++ s10) ++ s9)) : Nat) : Int) fun b4 =>
          (cond (!b4)
          (k (ByteArray.mk (List.toArray [])))
          (G_impl_ysplice s n ((s8 ++ s10) ++ s9) fun s11 =>
            (k s11))))
        none)
      none))))
    none))))
theorem ea_e_impl_PutTables_w (N : Nat) (G_impl_ysplice : ∀ {R : Type} (s : ByteArray) (n : Int) (s1 : ByteArray) (k : ByteArray → Option R), Option R) (G_impl_yfits : ∀ {R : Type} (n : Int) (n1 : Int) (n2 : Int) (k : Bool → Option R), Option R) (G_impl_ywordSum : ∀ {R : Type} (s : ByteArray) (k : Int → Option R), Option R) (G_impl_ybyteSum : ∀ {R : Type} (s : ByteArray) (k : Int → Option R), Option R) (G_impl_PutWord : ∀ {R : Type} (n : Int) (k : ByteArray → Option R), Option R) (G_slices_ContainsFunc_FirmTable_Fimpl_PutTables_1_r : ∀ {R : Type} (b : Bool) (l : List FirmTable) (k : Bool → Option R), Option R) (G_impl_ymemOk : ∀ {R : Type} (s : ByteArray) (k : Bool → Option R), Option R) {R : Type} (s : ByteArray) (n : Int) (b : Bool) (l : List FirmTable) (K : AV → Hp E → Option R) :
    runFnI (E := E) (OA_impl_PutTables_w N G_impl_ysplice G_impl_yfits G_impl_ywordSum G_impl_ybyteSum G_impl_PutWord G_slices_ContainsFunc_FirmTable_Fimpl_PutTables_1_r G_impl_ymemOk) (IT_impl_PutTables_w_0 N) sl_impl_PutTables_w J_impl_PutTables_w Go.Proofs.Try.f95 [(AV.sc (SV.str s)), (AV.sc (SV.int IntKind.i64 n)), (AV.sc (SV.slc 0 none b))] [(some (HE.mk false (HB.rows (B.iFirmTable l))))] K =
      ga_g_impl_PutTables_w N G_impl_ysplice G_impl_yfits G_impl_ywordSum G_impl_ybyteSum G_impl_PutWord G_slices_ContainsFunc_FirmTable_Fimpl_PutTables_1_r G_impl_ymemOk s n b l (fun s12 => K (AV.sc (SV.str s12)) [(some (HE.mk false (HB.rows (B.iFirmTable l))))]) := by kernel_rfl
theorem e_impl_PutTables_w (N : Nat) {R : Type} (s : ByteArray) (n : Int) (b : Bool) (l : List FirmTable) (K : AV → Hp E → Option R) :
    runFnI (E := E) (O_impl_PutTables_w N) (IT_impl_PutTables_w_0 N) sl_impl_PutTables_w J_impl_PutTables_w Go.Proofs.Try.f95 [(AV.sc (SV.str s)), (AV.sc (SV.int IntKind.i64 n)), (AV.sc (SV.slc 0 none b))] [(some (HE.mk false (HB.rows (B.iFirmTable l))))] K =
      g_impl_PutTables_w N s n b l (fun s12 => K (AV.sc (SV.str s12)) [(some (HE.mk false (HB.rows (B.iFirmTable l))))]) := castPr (by kernel_rfl) (ea_e_impl_PutTables_w N (g_impl_ysplice N) (g_impl_yfits N) (g_impl_ywordSum N) (g_impl_ybyteSum N) (g_impl_PutWord N) (g_slices_ContainsFunc_FirmTable_Fimpl_PutTables_1_r N) (g_impl_ymemOk N) s n b l K)
noncomputable def o_impl_PutTables_w (N : Nat) {R : Type} (args : List AV) (H : Hp E) (K : AV → Hp E → Option R) : Option R :=
  match args, H with
  | [(AV.sc (SV.str s)), (AV.sc (SV.int IntKind.i64 n)), (AV.sc (SV.slc 0 none b))], [(some (HE.mk false (HB.rows (B.iFirmTable l))))] => g_impl_PutTables_w N s n b l (fun s12 => K (AV.sc (SV.str s12)) [(some (HE.mk false (HB.rows (B.iFirmTable l))))])
  | _, _ => none
theorem o_impl_PutTables_w_ok (N : Nat) : FnOk E 95 (o_impl_PutTables_w N) := by
  intro R args H K r h
  unfold o_impl_PutTables_w at h
  dsimp only at h
  split at h
  · exact fnB_ok (ids := [0]) (top := [0]) ok (O_impl_PutTables_w_ok N) (jn_ok _ _ _) Go.Proofs.Try.func95 (by kernel_rfl) (IT := IT_impl_PutTables_w_0 N) (sl := sl_impl_PutTables_w) (J := J_impl_PutTables_w) (K := K) (H := [(some (HE.mk false (HB.rows (B.iFirmTable _))))]) (IT_impl_PutTables_w_0_ok N) (by kernel_rfl) rfl ((e_impl_PutTables_w N _ _ _ _ K).trans h)
  · cases h
/-! ### loop.example/g00038/impl.NewMachine -/
abbrev sl_impl_NewMachine : SlotT := []
abbrev J_impl_NewMachine : JT := jn [] [] []
noncomputable def O_impl_NewMachine (N : Nat) : Orc E := addFn 75 (o_impl_ymemOk N) (noFn)
theorem O_impl_NewMachine_ok (N : Nat) : OrcOk (O_impl_NewMachine N) := addFn_ok (o_impl_ymemOk_ok N) (noFn_ok)
noncomputable def g_impl_NewMachine (N : Nat) {R : Type} (s : ByteArray) (k : Bool → Int → Bool → Bool → ByteArray → (List Int) → (List Int) → (List Int) → Option R) : Option R :=
  (g_impl_ymemOk N s fun b =>
  (cond (!b)
  (k true (0 : Int) true true (ByteArray.mk (List.toArray [])) [] [] [])
  (k false (1 : Int) false false s (List.replicate 16 (0 : Int)) (List.replicate 12 (0 : Int)) (List.replicate 16 (0 : Int)))))
theorem e_impl_NewMachine (N : Nat) {R : Type} (s : ByteArray) (K : AV → Hp E → Option R) :
    runFnI (E := E) (O_impl_NewMachine N) (noIt) sl_impl_NewMachine J_impl_NewMachine Go.Proofs.Try.f97 [(AV.sc (SV.str s))] [] K =
      g_impl_NewMachine N s (fun b1 n b2 b3 s1 l l1 l2 => K (AV.agg [(SV.int IntKind.i64 (0 : Int)), (SV.slc 0 none b1), (SV.int IntKind.i64 n), (SV.slc 1 none b2), (SV.slc 2 none b3), (SV.str s1), (SV.int IntKind.i64 (0 : Int)), (SV.int IntKind.i64 (0 : Int)), (SV.int IntKind.i64 (0 : Int)), (SV.slc 3 none true), (SV.slc 4 none true), (SV.int IntKind.i64 (0 : Int))]) [(some (HE.mk false (HB.rows (B.i64 l)))), (some (HE.mk false (HB.rows (B.i64 l1)))), (some (HE.mk false (HB.rows (B.i64 l2)))), (some (HE.mk false (HB.rows (B.iPortValue [])))), (some (HE.mk false (HB.rows (B.iPortValue []))))]) := by kernel_rfl
noncomputable def o_impl_NewMachine (N : Nat) {R : Type} (args : List AV) (H : Hp E) (K : AV → Hp E → Option R) : Option R :=
  match args, H with
  | [(AV.sc (SV.str s))], [] => g_impl_NewMachine N s (fun b1 n b2 b3 s1 l l1 l2 => K (AV.agg [(SV.int IntKind.i64 (0 : Int)), (SV.slc 0 none b1), (SV.int IntKind.i64 n), (SV.slc 1 none b2), (SV.slc 2 none b3), (SV.str s1), (SV.int IntKind.i64 (0 : Int)), (SV.int IntKind.i64 (0 : Int)), (SV.int IntKind.i64 (0 : Int)), (SV.slc 3 none true), (SV.slc 4 none true), (SV.int IntKind.i64 (0 : Int))]) [(some (HE.mk false (HB.rows (B.i64 l)))), (some (HE.mk false (HB.rows (B.i64 l1)))), (some (HE.mk false (HB.rows (B.i64 l2)))), (some (HE.mk false (HB.rows (B.iPortValue [])))), (some (HE.mk false (HB.rows (B.iPortValue []))))])
  | _, _ => none
theorem o_impl_NewMachine_ok (N : Nat) : FnOk E 97 (o_impl_NewMachine N) := by
  intro R args H K r h
  unfold o_impl_NewMachine at h
  dsimp only at h
  split at h
  · exact fnB_ok (ids := []) (top := []) ok (O_impl_NewMachine_ok N) (jn_ok _ _ _) Go.Proofs.Try.func97 (by kernel_rfl) (IT := noIt) (sl := sl_impl_NewMachine) (J := J_impl_NewMachine) (K := K) (H := []) (noIt_ok) (by kernel_rfl) rfl ((e_impl_NewMachine N _ K).trans h)
  · cases h
/-! ### slices.Clone[[]int64,int64] -/
abbrev sl_slices_Clone_int64_w : SlotT := []
abbrev J_slices_Clone_int64_w : JT := jn [] [] []
noncomputable def O_slices_Clone_int64_w (N : Nat) : Orc E := noFn
theorem O_slices_Clone_int64_w_ok (N : Nat) : OrcOk (O_slices_Clone_int64_w N) := noFn_ok
noncomputable def g_slices_Clone_int64_w (N : Nat) {R : Type} (b : Bool) (l : List Int) (k : Bool → (List Int) → Option R) : Option R :=
  (cond b
  (k true [])
  (cond (Go.Eng.roomOk (0 + (List.length l)) 8)
    (k (cond (Nat.beq (List.length l) 0) false false) ([] ++ l))
    none))
theorem e_slices_Clone_int64_w (N : Nat) {R : Type} (b : Bool) (l : List Int) (K : AV → Hp E → Option R) :
    runFnI (E := E) (O_slices_Clone_int64_w N) (noIt) sl_slices_Clone_int64_w J_slices_Clone_int64_w Go.Proofs.Try.f119 [(AV.sc (SV.slc 0 none b))] [(some (HE.mk false (HB.rows (B.i64 l))))] K =
      g_slices_Clone_int64_w N b l (fun b1 l1 => K (AV.sc (SV.slc 1 none b1)) [(some (HE.mk false (HB.rows (B.i64 l)))), (some (HE.mk false (HB.rows (B.i64 l1))))]) := by kernel_rfl
noncomputable def o_slices_Clone_int64_w (N : Nat) {R : Type} (args : List AV) (H : Hp E) (K : AV → Hp E → Option R) : Option R :=
  match args, H with
  | [(AV.sc (SV.slc 0 none b))], [(some (HE.mk false (HB.rows (B.i64 l))))] => g_slices_Clone_int64_w N b l (fun b1 l1 => K (AV.sc (SV.slc 1 none b1)) [(some (HE.mk false (HB.rows (B.i64 l)))), (some (HE.mk false (HB.rows (B.i64 l1))))])
  | _, _ => none
theorem o_slices_Clone_int64_w_ok (N : Nat) : FnOk E 119 (o_slices_Clone_int64_w N) := by
  intro R args H K r h
  unfold o_slices_Clone_int64_w at h
  dsimp only at h
  split at h
  · exact fnB_ok (ids := []) (top := []) ok (O_slices_Clone_int64_w_ok N) (jn_ok _ _ _) Go.Proofs.Try.func119 (by kernel_rfl) (IT := noIt) (sl := sl_slices_Clone_int64_w) (J := J_slices_Clone_int64_w) (K := K) (H := [(some (HE.mk false (HB.rows (B.i64 _))))]) (noIt_ok) (by kernel_rfl) rfl ((e_slices_Clone_int64_w N _ _ K).trans h)
  · cases h
/-! ### loop.example/g00038/impl.ymeasure -/
abbrev sl_impl_ymeasure_ww : SlotT := [(0, ([0, 9, 10, 11], [0]))]
abbrev J_impl_ymeasure_ww : JT := jn [] [] []
noncomputable def O_impl_ymeasure_ww (N : Nat) : Orc E := addFn 44 (o_impl_ymix N) (addFn 38 (o_impl_PutWord N) (addFn 119 (o_slices_Clone_int64_w N) (noFn)))
theorem O_impl_ymeasure_ww_ok (N : Nat) : OrcOk (O_impl_ymeasure_ww N) := addFn_ok (o_impl_ymix_ok N) (addFn_ok (o_impl_PutWord_ok N) (addFn_ok (o_slices_Clone_int64_w_ok N) (noFn_ok)))
noncomputable def s_impl_ymeasure_ww_0 (N : Nat) {R : Type} (b3 : Bool) (b4 : Bool) (n : Int) (l3 : List Int) (l4 : List Stage) (n1 : Int) (l5 : List Int) (ag : Int → (List Int) → Option R)  (kN : (List Int) → Option R) : Option R :=
  (cond (decide ((n1 < n)))
  (cond ((decide (((0 : Int) ≤ n1))) && (decide ((n1 < (((List.length l4) : Nat) : Int)))))
    (elemK l4 (Int.toNat n1) fun x =>
      (cond ((decide (((0 : Int) ≤ (Stage.fReg x)))) && (decide (((Stage.fReg x) < (((List.length l5) : Nat) : Int)))))
      (elemK l5 (Int.toNat (Stage.fReg x)) fun x1 =>
        (g_impl_PutWord N x1 fun s =>
        (cond (Nat.ble ((ByteArray.size s) + (ByteArray.size (Stage.fText x))) 9223372036854775807)
        (g_impl_ymix N (s ++ (Stage.fText x)) (31 : Int) fun n2 =>
          (cond ((decide (((0 : Int) ≤ (Stage.fReg x)))) && (decide (((Stage.fReg x) < (((List.length l5) : Nat) : Int)))))
          (elemK l5 (Int.toNat (Stage.fReg x)) fun x2 =>
            (cond (Nat.blt (Int.toNat (Stage.fReg x)) (List.length l5))
            (ag (IntKind.wrap IntKind.i64 (n1 + (1 : Int))) (nset l5 (Int.toNat (Stage.fReg x)) n2))
            none))
          none))
        none)))
      none))
    none)
  (kN l5))
noncomputable def l_impl_ymeasure_ww_0 (N : Nat) {R : Type} (b3 : Bool) (b4 : Bool) (n : Int) (l3 : List Int) (l4 : List Stage) (kN : (List Int) → Option R) : Nat → Int → (List Int) → Option R
  | 0, _, _ => none
  | f + 1, n1, l5 => s_impl_ymeasure_ww_0 N b3 b4 n l3 l4 n1 l5 (fun n1 l5 => l_impl_ymeasure_ww_0 N b3 b4 n l3 l4 kN f n1 l5)  kN
noncomputable def c_impl_ymeasure_ww_0 (N : Nat) {R : Type} (b3 : Bool) (b4 : Bool) (n : Int) (l3 : List Int) (l4 : List Stage) (n1 : Int) (l5 : List Int) (kN : (List Int) → Option R) : Option R := l_impl_ymeasure_ww_0 N b3 b4 n l3 l4 kN N n1 l5
theorem se_impl_ymeasure_ww_0 (N : Nat) {R : Type} (b3 : Bool) (b4 : Bool) (n : Int) (l3 : List Int) (l4 : List Stage) (n1 : Int) (l5 : List Int) (AG : List (Option AV) → Hp E → Option R) (KL : Ex → List (Option AV) → Hp E → Option R) :
    iterStep (E := E) (O_impl_ymeasure_ww N) (fun {R} => LI (noIt) 2 31 sl_impl_ymeasure_ww (R := R)) J_impl_ymeasure_ww 2 31 0 [0, 9, 10, 11] [0] (body Go.Proofs.Try.f98 0) AG KL [(some (AV.sc (SV.slc 2 none b3))), (some (AV.sc (SV.slc 1 none b4))), (some (AV.sc (SV.int IntKind.i64 n))), (some (AV.sc (SV.int IntKind.i64 n1)))] [(some (HE.mk false (HB.rows (B.i64 l3)))), (some (HE.mk false (HB.rows (B.iStage l4)))), (some (HE.mk false (HB.rows (B.i64 l5))))] =
      s_impl_ymeasure_ww_0 N b3 b4 n l3 l4 n1 l5 (fun n1 l5 => AG [(some (AV.sc (SV.slc 2 none b3))), (some (AV.sc (SV.slc 1 none b4))), (some (AV.sc (SV.int IntKind.i64 n))), (some (AV.sc (SV.int IntKind.i64 n1)))] [(some (HE.mk false (HB.rows (B.i64 l3)))), (some (HE.mk false (HB.rows (B.iStage l4)))), (some (HE.mk false (HB.rows (B.i64 l5))))])  (fun l8 => KL Ex.normal [(some (AV.sc (SV.slc 2 none b3)))] [(some (HE.mk false (HB.rows (B.i64 l3)))), (some (HE.mk false (HB.rows (B.iStage l4)))), (some (HE.mk false (HB.rows (B.i64 l8))))]) := by kernel_rfl
theorem le_impl_ymeasure_ww_0 (N : Nat) {R : Type} (b3 : Bool) (b4 : Bool) (n : Int) (l3 : List Int) (l4 : List Stage) (KL : Ex → List (Option AV) → Hp E → Option R) : ∀ (f : Nat), ∀ (n1 : Int) (l5 : List Int), iterK (E := E) (O_impl_ymeasure_ww N) (fun {R} => LI (noIt) 2 31 sl_impl_ymeasure_ww (R := R)) J_impl_ymeasure_ww 2 31 0 [0, 9, 10, 11] [0] (body Go.Proofs.Try.f98 0) f [(some (AV.sc (SV.slc 2 none b3))), (some (AV.sc (SV.slc 1 none b4))), (some (AV.sc (SV.int IntKind.i64 n))), (some (AV.sc (SV.int IntKind.i64 n1)))] [(some (HE.mk false (HB.rows (B.i64 l3)))), (some (HE.mk false (HB.rows (B.iStage l4)))), (some (HE.mk false (HB.rows (B.i64 l5))))] KL = l_impl_ymeasure_ww_0 N b3 b4 n l3 l4 (fun l8 => KL Ex.normal [(some (AV.sc (SV.slc 2 none b3)))] [(some (HE.mk false (HB.rows (B.i64 l3)))), (some (HE.mk false (HB.rows (B.iStage l4)))), (some (HE.mk false (HB.rows (B.i64 l8))))]) f n1 l5 := by
  intro f
  induction f with
  | zero => intros; rfl
  | succ f ih =>
    intro n1 l5
    rw [iterK_succ, se_impl_ymeasure_ww_0]
    exact (congrArg (fun z0 => s_impl_ymeasure_ww_0 N b3 b4 n l3 l4 n1 l5 z0 (fun l8 => KL Ex.normal [(some (AV.sc (SV.slc 2 none b3)))] [(some (HE.mk false (HB.rows (B.i64 l3)))), (some (HE.mk false (HB.rows (B.iStage l4)))), (some (HE.mk false (HB.rows (B.i64 l8))))])) (funext fun n1 => funext fun l5 => ih n1 l5))
noncomputable def i_impl_ymeasure_ww_0 (N : Nat) {R : Type} (vs : List (Option AV)) (H : Hp E) (KL : Ex → List (Option AV) → Hp E → Option R) : Option R :=
  match vs, H with
  | [(some (AV.sc (SV.slc 2 none b3))), (some (AV.sc (SV.slc 1 none b4))), (some (AV.sc (SV.int IntKind.i64 n))), (some (AV.sc (SV.int IntKind.i64 n1)))], [(some (HE.mk false (HB.rows (B.i64 l3)))), (some (HE.mk false (HB.rows (B.iStage l4)))), (some (HE.mk false (HB.rows (B.i64 l5))))] => c_impl_ymeasure_ww_0 N b3 b4 n l3 l4 n1 l5 (fun l9 => KL Ex.normal [(some (AV.sc (SV.slc 2 none b3)))] [(some (HE.mk false (HB.rows (B.i64 l3)))), (some (HE.mk false (HB.rows (B.iStage l4)))), (some (HE.mk false (HB.rows (B.i64 l9))))])
  | _, _ => none
noncomputable def IT_impl_ymeasure_ww_0 (N : Nat) : Its E := addIt 0 (i_impl_ymeasure_ww_0 N) (noIt)
theorem IT_impl_ymeasure_ww_0_ok (N : Nat) : ItOk (IT_impl_ymeasure_ww_0 N) 2 31 sl_impl_ymeasure_ww (lsB Go.Proofs.Try.f98 [0]) :=
  addItB_ok (inner := []) ok (O_impl_ymeasure_ww_ok N) (jn_ok _ _ _) (noIt_ok) rfl (by kernel_rfl) rfl fun vs H KL r h => by
    unfold i_impl_ymeasure_ww_0 at h
    split at h
    · exact ⟨_, (le_impl_ymeasure_ww_0 N _ _ _ _ _ KL N _ _).trans h⟩
    · cases h
noncomputable def g_impl_ymeasure_ww (N : Nat) {R : Type} (b : Bool) (b1 : Bool) (l : List Int) (l1 : List Stage) (k : Bool → (List Int) → Option R) : Option R :=
  (g_slices_Clone_int64_w N b l fun b2 l2 =>
  (c_impl_ymeasure_ww_0 N b2 b1 (((List.length l1) : Nat) : Int) l l1 (0 : Int) l2 fun l6 =>
  (k b2 l6)))
theorem e_impl_ymeasure_ww (N : Nat) {R : Type} (b : Bool) (b1 : Bool) (l : List Int) (l1 : List Stage) (K : AV → Hp E → Option R) :
    runFnI (E := E) (O_impl_ymeasure_ww N) (IT_impl_ymeasure_ww_0 N) sl_impl_ymeasure_ww J_impl_ymeasure_ww Go.Proofs.Try.f98 [(AV.sc (SV.slc 0 none b)), (AV.sc (SV.slc 1 none b1))] [(some (HE.mk false (HB.rows (B.i64 l)))), (some (HE.mk false (HB.rows (B.iStage l1))))] K =
      g_impl_ymeasure_ww N b b1 l l1 (fun b5 l7 => K (AV.sc (SV.slc 2 none b5)) [(some (HE.mk false (HB.rows (B.i64 l)))), (some (HE.mk false (HB.rows (B.iStage l1)))), (some (HE.mk false (HB.rows (B.i64 l7))))]) := by kernel_rfl
noncomputable def o_impl_ymeasure_ww (N : Nat) {R : Type} (args : List AV) (H : Hp E) (K : AV → Hp E → Option R) : Option R :=
  match args, H with
  | [(AV.sc (SV.slc 0 none b)), (AV.sc (SV.slc 1 none b1))], [(some (HE.mk false (HB.rows (B.i64 l)))), (some (HE.mk false (HB.rows (B.iStage l1))))] => g_impl_ymeasure_ww N b b1 l l1 (fun b5 l7 => K (AV.sc (SV.slc 2 none b5)) [(some (HE.mk false (HB.rows (B.i64 l)))), (some (HE.mk false (HB.rows (B.iStage l1)))), (some (HE.mk false (HB.rows (B.i64 l7))))])
  | _, _ => none
theorem o_impl_ymeasure_ww_ok (N : Nat) : FnOk E 98 (o_impl_ymeasure_ww N) := by
  intro R args H K r h
  unfold o_impl_ymeasure_ww at h
  dsimp only at h
  split at h
  · exact fnB_ok (ids := [0]) (top := [0]) ok (O_impl_ymeasure_ww_ok N) (jn_ok _ _ _) Go.Proofs.Try.func98 (by kernel_rfl) (IT := IT_impl_ymeasure_ww_0 N) (sl := sl_impl_ymeasure_ww) (J := J_impl_ymeasure_ww) (K := K) (H := [(some (HE.mk false (HB.rows (B.i64 _)))), (some (HE.mk false (HB.rows (B.iStage _))))]) (IT_impl_ymeasure_ww_0_ok N) (by kernel_rfl) rfl ((e_impl_ymeasure_ww N _ _ _ _ K).trans h)
  · cases h
end Go.Sa
