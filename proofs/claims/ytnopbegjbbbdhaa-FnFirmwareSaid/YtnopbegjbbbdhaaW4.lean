import Derived.Test.YtnopbegjbbbdhaaSpec
import Derived.Test.YtnopbegjbbbdhaaPLb
import Derived.Test.YtnopbegjbbbdhaaW3
set_option linter.all false
namespace Go.Sa
open Go Go.Eng Go.Proofs
set_option maxRecDepth 100000
/-! ### loop.example/g00038/impl.PutTables -/
abbrev sl_impl_PutTables_w : SlotT := [(0, ([0, 1, 7, 8, 9, 46, 47, 48], [0, 1, 7, 9]))]
abbrev J_impl_PutTables_w : JT := jn [(1, [(35, .b)])] [] []
noncomputable def O_impl_PutTables_w (N : Nat) : Orc E := addFn 108 (o_impl_ysplice N) (addFn 97 (o_impl_yfits N) (addFn 98 (o_impl_ywordSum N) (addFn 107 (o_impl_ybyteSum N) (addFn 106 (o_impl_PutWord N) (addFn 82 (o_slices_ContainsFunc_FirmTable_Fimpl_PutTables_1_r N) (addFn 68 (o_impl_ymemOk N) (noFn)))))))
def pa_impl_PutTables_w__o_impl_ysplice (N : Nat) (G_impl_ysplice : ∀ {R : Type} (s : ByteArray) (n : Int) (s1 : ByteArray) (k : ByteArray → Option R), Option R) (G_impl_yfits : ∀ {R : Type} (n : Int) (n1 : Int) (n2 : Int) (k : Bool → Option R), Option R) (G_impl_ywordSum : ∀ {R : Type} (s : ByteArray) (k : Int → Option R), Option R) (G_impl_ybyteSum : ∀ {R : Type} (s : ByteArray) (k : Int → Option R), Option R) (G_impl_PutWord : ∀ {R : Type} (n : Int) (k : ByteArray → Option R), Option R) (G_slices_ContainsFunc_FirmTable_Fimpl_PutTables_1_r : ∀ {R : Type} (b : Bool) (l : List Go.Sa.FirmTable) (k : Bool → Option R), Option R) (G_impl_ymemOk : ∀ {R : Type} (s : ByteArray) (k : Bool → Option R), Option R) {R : Type} (args : List AV) (H : Hp E) (K : AV → Hp E → Option R) : Option R :=
  match args, H with
  | [(Go.Eng.AV.sc (Go.Eng.SV.str s)), (Go.Eng.AV.sc (Go.Eng.SV.int Go.IntKind.i64 n)), (Go.Eng.AV.sc (Go.Eng.SV.str s1))], [] => G_impl_ysplice s n s1 (fun s2 => K (Go.Eng.AV.sc (Go.Eng.SV.str s2)) [])
  | _, _ => none
def pa_impl_PutTables_w__o_impl_yfits (N : Nat) (G_impl_ysplice : ∀ {R : Type} (s : ByteArray) (n : Int) (s1 : ByteArray) (k : ByteArray → Option R), Option R) (G_impl_yfits : ∀ {R : Type} (n : Int) (n1 : Int) (n2 : Int) (k : Bool → Option R), Option R) (G_impl_ywordSum : ∀ {R : Type} (s : ByteArray) (k : Int → Option R), Option R) (G_impl_ybyteSum : ∀ {R : Type} (s : ByteArray) (k : Int → Option R), Option R) (G_impl_PutWord : ∀ {R : Type} (n : Int) (k : ByteArray → Option R), Option R) (G_slices_ContainsFunc_FirmTable_Fimpl_PutTables_1_r : ∀ {R : Type} (b : Bool) (l : List Go.Sa.FirmTable) (k : Bool → Option R), Option R) (G_impl_ymemOk : ∀ {R : Type} (s : ByteArray) (k : Bool → Option R), Option R) {R : Type} (args : List AV) (H : Hp E) (K : AV → Hp E → Option R) : Option R :=
  match args, H with
  | [(Go.Eng.AV.sc (Go.Eng.SV.int Go.IntKind.i64 n)), (Go.Eng.AV.sc (Go.Eng.SV.int Go.IntKind.i64 n1)), (Go.Eng.AV.sc (Go.Eng.SV.int Go.IntKind.i64 n2))], [] => G_impl_yfits n n1 n2 (fun b => K (Go.Eng.AV.sc (Go.Eng.SV.bool b)) [])
  | _, _ => none
def pa_impl_PutTables_w__o_impl_ywordSum (N : Nat) (G_impl_ysplice : ∀ {R : Type} (s : ByteArray) (n : Int) (s1 : ByteArray) (k : ByteArray → Option R), Option R) (G_impl_yfits : ∀ {R : Type} (n : Int) (n1 : Int) (n2 : Int) (k : Bool → Option R), Option R) (G_impl_ywordSum : ∀ {R : Type} (s : ByteArray) (k : Int → Option R), Option R) (G_impl_ybyteSum : ∀ {R : Type} (s : ByteArray) (k : Int → Option R), Option R) (G_impl_PutWord : ∀ {R : Type} (n : Int) (k : ByteArray → Option R), Option R) (G_slices_ContainsFunc_FirmTable_Fimpl_PutTables_1_r : ∀ {R : Type} (b : Bool) (l : List Go.Sa.FirmTable) (k : Bool → Option R), Option R) (G_impl_ymemOk : ∀ {R : Type} (s : ByteArray) (k : Bool → Option R), Option R) {R : Type} (args : List AV) (H : Hp E) (K : AV → Hp E → Option R) : Option R :=
  match args, H with
  | [(Go.Eng.AV.sc (Go.Eng.SV.str s))], [] => G_impl_ywordSum s (fun n5 => K (Go.Eng.AV.sc (Go.Eng.SV.int Go.IntKind.i64 n5)) [])
  | _, _ => none
def pa_impl_PutTables_w__o_impl_ybyteSum (N : Nat) (G_impl_ysplice : ∀ {R : Type} (s : ByteArray) (n : Int) (s1 : ByteArray) (k : ByteArray → Option R), Option R) (G_impl_yfits : ∀ {R : Type} (n : Int) (n1 : Int) (n2 : Int) (k : Bool → Option R), Option R) (G_impl_ywordSum : ∀ {R : Type} (s : ByteArray) (k : Int → Option R), Option R) (G_impl_ybyteSum : ∀ {R : Type} (s : ByteArray) (k : Int → Option R), Option R) (G_impl_PutWord : ∀ {R : Type} (n : Int) (k : ByteArray → Option R), Option R) (G_slices_ContainsFunc_FirmTable_Fimpl_PutTables_1_r : ∀ {R : Type} (b : Bool) (l : List Go.Sa.FirmTable) (k : Bool → Option R), Option R) (G_impl_ymemOk : ∀ {R : Type} (s : ByteArray) (k : Bool → Option R), Option R) {R : Type} (args : List AV) (H : Hp E) (K : AV → Hp E → Option R) : Option R :=
  match args, H with
  | [(Go.Eng.AV.sc (Go.Eng.SV.str s))], [] => G_impl_ybyteSum s (fun n4 => K (Go.Eng.AV.sc (Go.Eng.SV.int Go.IntKind.i64 n4)) [])
  | _, _ => none
def pa_impl_PutTables_w__o_impl_PutWord (N : Nat) (G_impl_ysplice : ∀ {R : Type} (s : ByteArray) (n : Int) (s1 : ByteArray) (k : ByteArray → Option R), Option R) (G_impl_yfits : ∀ {R : Type} (n : Int) (n1 : Int) (n2 : Int) (k : Bool → Option R), Option R) (G_impl_ywordSum : ∀ {R : Type} (s : ByteArray) (k : Int → Option R), Option R) (G_impl_ybyteSum : ∀ {R : Type} (s : ByteArray) (k : Int → Option R), Option R) (G_impl_PutWord : ∀ {R : Type} (n : Int) (k : ByteArray → Option R), Option R) (G_slices_ContainsFunc_FirmTable_Fimpl_PutTables_1_r : ∀ {R : Type} (b : Bool) (l : List Go.Sa.FirmTable) (k : Bool → Option R), Option R) (G_impl_ymemOk : ∀ {R : Type} (s : ByteArray) (k : Bool → Option R), Option R) {R : Type} (args : List AV) (H : Hp E) (K : AV → Hp E → Option R) : Option R :=
  match args, H with
  | [(Go.Eng.AV.sc (Go.Eng.SV.int Go.IntKind.i64 n))], [] => G_impl_PutWord n (fun s => K (Go.Eng.AV.sc (Go.Eng.SV.str s)) [])
  | _, _ => none
def pa_impl_PutTables_w__o_slices_ContainsFunc_FirmTable_Fimpl_PutTables_1_r (N : Nat) (G_impl_ysplice : ∀ {R : Type} (s : ByteArray) (n : Int) (s1 : ByteArray) (k : ByteArray → Option R), Option R) (G_impl_yfits : ∀ {R : Type} (n : Int) (n1 : Int) (n2 : Int) (k : Bool → Option R), Option R) (G_impl_ywordSum : ∀ {R : Type} (s : ByteArray) (k : Int → Option R), Option R) (G_impl_ybyteSum : ∀ {R : Type} (s : ByteArray) (k : Int → Option R), Option R) (G_impl_PutWord : ∀ {R : Type} (n : Int) (k : ByteArray → Option R), Option R) (G_slices_ContainsFunc_FirmTable_Fimpl_PutTables_1_r : ∀ {R : Type} (b : Bool) (l : List Go.Sa.FirmTable) (k : Bool → Option R), Option R) (G_impl_ymemOk : ∀ {R : Type} (s : ByteArray) (k : Bool → Option R), Option R) {R : Type} (args : List AV) (H : Hp E) (K : AV → Hp E → Option R) : Option R :=
  match args, H with
  | [(Go.Eng.AV.sc (Go.Eng.SV.slc 0 Option.none b)), (Go.Eng.AV.sc (Go.Eng.SV.fn 105 []))], [(Option.some (Go.Eng.HE.mk Bool.true (Go.Eng.HB.rows (Go.Sa.B.iFirmTable l))))] => G_slices_ContainsFunc_FirmTable_Fimpl_PutTables_1_r b l (fun b1 => K (Go.Eng.AV.sc (Go.Eng.SV.bool b1)) [(Option.some (Go.Eng.HE.mk Bool.true (Go.Eng.HB.rows (Go.Sa.B.iFirmTable l))))])
  | _, _ => none
def pa_impl_PutTables_w__o_impl_ymemOk (N : Nat) (G_impl_ysplice : ∀ {R : Type} (s : ByteArray) (n : Int) (s1 : ByteArray) (k : ByteArray → Option R), Option R) (G_impl_yfits : ∀ {R : Type} (n : Int) (n1 : Int) (n2 : Int) (k : Bool → Option R), Option R) (G_impl_ywordSum : ∀ {R : Type} (s : ByteArray) (k : Int → Option R), Option R) (G_impl_ybyteSum : ∀ {R : Type} (s : ByteArray) (k : Int → Option R), Option R) (G_impl_PutWord : ∀ {R : Type} (n : Int) (k : ByteArray → Option R), Option R) (G_slices_ContainsFunc_FirmTable_Fimpl_PutTables_1_r : ∀ {R : Type} (b : Bool) (l : List Go.Sa.FirmTable) (k : Bool → Option R), Option R) (G_impl_ymemOk : ∀ {R : Type} (s : ByteArray) (k : Bool → Option R), Option R) {R : Type} (args : List AV) (H : Hp E) (K : AV → Hp E → Option R) : Option R :=
  match args, H with
  | [(Go.Eng.AV.sc (Go.Eng.SV.str s))], [] => G_impl_ymemOk s (fun b => K (Go.Eng.AV.sc (Go.Eng.SV.bool b)) [])
  | _, _ => none
noncomputable def OA_impl_PutTables_w (N : Nat) (G_impl_ysplice : ∀ {R : Type} (s : ByteArray) (n : Int) (s1 : ByteArray) (k : ByteArray → Option R), Option R) (G_impl_yfits : ∀ {R : Type} (n : Int) (n1 : Int) (n2 : Int) (k : Bool → Option R), Option R) (G_impl_ywordSum : ∀ {R : Type} (s : ByteArray) (k : Int → Option R), Option R) (G_impl_ybyteSum : ∀ {R : Type} (s : ByteArray) (k : Int → Option R), Option R) (G_impl_PutWord : ∀ {R : Type} (n : Int) (k : ByteArray → Option R), Option R) (G_slices_ContainsFunc_FirmTable_Fimpl_PutTables_1_r : ∀ {R : Type} (b : Bool) (l : List Go.Sa.FirmTable) (k : Bool → Option R), Option R) (G_impl_ymemOk : ∀ {R : Type} (s : ByteArray) (k : Bool → Option R), Option R) : Orc E := addFn 108 (pa_impl_PutTables_w__o_impl_ysplice N G_impl_ysplice G_impl_yfits G_impl_ywordSum G_impl_ybyteSum G_impl_PutWord G_slices_ContainsFunc_FirmTable_Fimpl_PutTables_1_r G_impl_ymemOk) (addFn 97 (pa_impl_PutTables_w__o_impl_yfits N G_impl_ysplice G_impl_yfits G_impl_ywordSum G_impl_ybyteSum G_impl_PutWord G_slices_ContainsFunc_FirmTable_Fimpl_PutTables_1_r G_impl_ymemOk) (addFn 98 (pa_impl_PutTables_w__o_impl_ywordSum N G_impl_ysplice G_impl_yfits G_impl_ywordSum G_impl_ybyteSum G_impl_PutWord G_slices_ContainsFunc_FirmTable_Fimpl_PutTables_1_r G_impl_ymemOk) (addFn 107 (pa_impl_PutTables_w__o_impl_ybyteSum N G_impl_ysplice G_impl_yfits G_impl_ywordSum G_impl_ybyteSum G_impl_PutWord G_slices_ContainsFunc_FirmTable_Fimpl_PutTables_1_r G_impl_ymemOk) (addFn 106 (pa_impl_PutTables_w__o_impl_PutWord N G_impl_ysplice G_impl_yfits G_impl_ywordSum G_impl_ybyteSum G_impl_PutWord G_slices_ContainsFunc_FirmTable_Fimpl_PutTables_1_r G_impl_ymemOk) (addFn 82 (pa_impl_PutTables_w__o_slices_ContainsFunc_FirmTable_Fimpl_PutTables_1_r N G_impl_ysplice G_impl_yfits G_impl_ywordSum G_impl_ybyteSum G_impl_PutWord G_slices_ContainsFunc_FirmTable_Fimpl_PutTables_1_r G_impl_ymemOk) (addFn 68 (pa_impl_PutTables_w__o_impl_ymemOk N G_impl_ysplice G_impl_yfits G_impl_ywordSum G_impl_ybyteSum G_impl_PutWord G_slices_ContainsFunc_FirmTable_Fimpl_PutTables_1_r G_impl_ymemOk) (noFn)))))))
theorem O_impl_PutTables_w_ok (N : Nat) : OrcOk (O_impl_PutTables_w N) := addFn_ok (o_impl_ysplice_ok N) (addFn_ok (o_impl_yfits_ok N) (addFn_ok (o_impl_ywordSum_ok N) (addFn_ok (o_impl_ybyteSum_ok N) (addFn_ok (o_impl_PutWord_ok N) (addFn_ok (o_slices_ContainsFunc_FirmTable_Fimpl_PutTables_1_r_ok N) (addFn_ok (o_impl_ymemOk_ok N) (noFn_ok)))))))
def s_impl_PutTables_w_0 (N : Nat) {R : Type} (s2 : ByteArray) (n1 : Int) (n2 : Int) (b3 : Bool) (n3 : Int) (l1 : List Go.Sa.FirmTable) (s3 : ByteArray) (s4 : ByteArray) (n4 : Int) (ag : ByteArray → ByteArray → Int → Option R)  (kN : ByteArray → ByteArray → Option R) : Option R :=
  (cond (decide ((n4 < n3)))
  (cond ((decide (((0 : Int) ≤ n4))) && (decide ((n4 < (((List.length l1) : Nat) : Int)))))
    (elemK l1 (Int.toNat n4) fun x =>
      (g_impl_PutWord N (Go.IntKind.wrap Go.IntKind.i64 (n2 + (((ByteArray.size s4) : Nat) : Int))) fun s5 =>
      (cond (Nat.ble ((ByteArray.size s3) + (ByteArray.size s5)) 9223372036854775807)
      (g_impl_PutWord N (Go.IntKind.wrap Go.IntKind.i64 (((BitVec.toNat ((BitVec.ofInt 64 (Go.IntKind.wrap Go.IntKind.i64 ((Go.IntKind.wrap Go.IntKind.i64 ((8 : Int) + (((ByteArray.size (Go.Sa.FirmTable.fBody x)) : Nat) : Int))) * (65536 : Int)))) ||| (BitVec.ofInt 64 (Go.IntKind.wrap Go.IntKind.i64 ((Go.Sa.FirmTable.fRev x) * (256 : Int)))))) : Nat) : Int)) fun s6 =>
        (cond (Nat.ble ((ByteArray.size (Go.Sa.FirmTable.fName x)) + (ByteArray.size s6)) 9223372036854775807)
        (cond (Nat.ble ((ByteArray.size ((Go.Sa.FirmTable.fName x) ++ s6)) + (ByteArray.size (Go.Sa.FirmTable.fBody x))) 9223372036854775807)
          (g_impl_ybyteSum N (((Go.Sa.FirmTable.fName x) ++ s6) ++ (Go.Sa.FirmTable.fBody x)) fun n5 =>
            (g_impl_PutWord N (Go.IntKind.wrap Go.IntKind.i64 (((BitVec.toNat ((BitVec.ofInt 64 (Go.IntKind.wrap Go.IntKind.i64 (((BitVec.toNat ((BitVec.ofInt 64 (Go.IntKind.wrap Go.IntKind.i64 ((Go.IntKind.wrap Go.IntKind.i64 ((8 : Int) + (((ByteArray.size (Go.Sa.FirmTable.fBody x)) : Nat) : Int))) * (65536 : Int)))) ||| (BitVec.ofInt 64 (Go.IntKind.wrap Go.IntKind.i64 ((Go.Sa.FirmTable.fRev x) * (256 : Int)))))) : Nat) : Int))) ||| (BitVec.ofInt 64 (Go.IntKind.wrap Go.IntKind.i64 (((BitVec.toNat ((BitVec.ofInt 64 (Go.IntKind.wrap Go.IntKind.i64 ((256 : Int) - n5))) &&& (BitVec.ofInt 64 (255 : Int)))) : Nat) : Int))))) : Nat) : Int)) fun s7 =>
            (cond (Nat.ble ((ByteArray.size (Go.Sa.FirmTable.fName x)) + (ByteArray.size s7)) 9223372036854775807)
            (cond (Nat.ble ((ByteArray.size ((Go.Sa.FirmTable.fName x) ++ s7)) + (ByteArray.size (Go.Sa.FirmTable.fBody x))) 9223372036854775807)
              (cond (Nat.ble ((ByteArray.size s4) + (ByteArray.size (((Go.Sa.FirmTable.fName x) ++ s7) ++ (Go.Sa.FirmTable.fBody x)))) 9223372036854775807)
                (ag (s3 ++ s5) (s4 ++ (((Go.Sa.FirmTable.fName x) ++ s7) ++ (Go.Sa.FirmTable.fBody x))) (Go.IntKind.wrap Go.IntKind.i64 (n4 + (1 : Int))))
                none)
              none)
            none)))
          none)
        none))
      none)))
    none)
  (kN s3 s4))
def ga_s_impl_PutTables_w_0 (N : Nat) (G_impl_ysplice : ∀ {R : Type} (s : ByteArray) (n : Int) (s1 : ByteArray) (k : ByteArray → Option R), Option R) (G_impl_yfits : ∀ {R : Type} (n : Int) (n1 : Int) (n2 : Int) (k : Bool → Option R), Option R) (G_impl_ywordSum : ∀ {R : Type} (s : ByteArray) (k : Int → Option R), Option R) (G_impl_ybyteSum : ∀ {R : Type} (s : ByteArray) (k : Int → Option R), Option R) (G_impl_PutWord : ∀ {R : Type} (n : Int) (k : ByteArray → Option R), Option R) (G_slices_ContainsFunc_FirmTable_Fimpl_PutTables_1_r : ∀ {R : Type} (b : Bool) (l : List Go.Sa.FirmTable) (k : Bool → Option R), Option R) (G_impl_ymemOk : ∀ {R : Type} (s : ByteArray) (k : Bool → Option R), Option R) {R : Type} (s2 : ByteArray) (n1 : Int) (n2 : Int) (b3 : Bool) (n3 : Int) (l1 : List Go.Sa.FirmTable) (s3 : ByteArray) (s4 : ByteArray) (n4 : Int) (ag : ByteArray → ByteArray → Int → Option R)  (kN : ByteArray → ByteArray → Option R) : Option R :=
  (cond (decide ((n4 < n3)))
  (cond ((decide (((0 : Int) ≤ n4))) && (decide ((n4 < (((List.length l1) : Nat) : Int)))))
    (elemK l1 (Int.toNat n4) fun x =>
      (G_impl_PutWord (Go.IntKind.wrap Go.IntKind.i64 (n2 + (((ByteArray.size s4) : Nat) : Int))) fun s5 =>
      (cond (Nat.ble ((ByteArray.size s3) + (ByteArray.size s5)) 9223372036854775807)
      (G_impl_PutWord (Go.IntKind.wrap Go.IntKind.i64 (((BitVec.toNat ((BitVec.ofInt 64 (Go.IntKind.wrap Go.IntKind.i64 ((Go.IntKind.wrap Go.IntKind.i64 ((8 : Int) + (((ByteArray.size (Go.Sa.FirmTable.fBody x)) : Nat) : Int))) * (65536 : Int)))) ||| (BitVec.ofInt 64 (Go.IntKind.wrap Go.IntKind.i64 ((Go.Sa.FirmTable.fRev x) * (256 : Int)))))) : Nat) : Int)) fun s6 =>
        (cond (Nat.ble ((ByteArray.size (Go.Sa.FirmTable.fName x)) + (ByteArray.size s6)) 9223372036854775807)
        (cond (Nat.ble ((ByteArray.size ((Go.Sa.FirmTable.fName x) ++ s6)) + (ByteArray.size (Go.Sa.FirmTable.fBody x))) 9223372036854775807)
          (G_impl_ybyteSum (((Go.Sa.FirmTable.fName x) ++ s6) ++ (Go.Sa.FirmTable.fBody x)) fun n5 =>
            (G_impl_PutWord (Go.IntKind.wrap Go.IntKind.i64 (((BitVec.toNat ((BitVec.ofInt 64 (Go.IntKind.wrap Go.IntKind.i64 (((BitVec.toNat ((BitVec.ofInt 64 (Go.IntKind.wrap Go.IntKind.i64 ((Go.IntKind.wrap Go.IntKind.i64 ((8 : Int) + (((ByteArray.size (Go.Sa.FirmTable.fBody x)) : Nat) : Int))) * (65536 : Int)))) ||| (BitVec.ofInt 64 (Go.IntKind.wrap Go.IntKind.i64 ((Go.Sa.FirmTable.fRev x) * (256 : Int)))))) : Nat) : Int))) ||| (BitVec.ofInt 64 (Go.IntKind.wrap Go.IntKind.i64 (((BitVec.toNat ((BitVec.ofInt 64 (Go.IntKind.wrap Go.IntKind.i64 ((256 : Int) - n5))) &&& (BitVec.ofInt 64 (255 : Int)))) : Nat) : Int))))) : Nat) : Int)) fun s7 =>
            (cond (Nat.ble ((ByteArray.size (Go.Sa.FirmTable.fName x)) + (ByteArray.size s7)) 9223372036854775807)
            (cond (Nat.ble ((ByteArray.size ((Go.Sa.FirmTable.fName x) ++ s7)) + (ByteArray.size (Go.Sa.FirmTable.fBody x))) 9223372036854775807)
              (cond (Nat.ble ((ByteArray.size s4) + (ByteArray.size (((Go.Sa.FirmTable.fName x) ++ s7) ++ (Go.Sa.FirmTable.fBody x)))) 9223372036854775807)
                (ag (s3 ++ s5) (s4 ++ (((Go.Sa.FirmTable.fName x) ++ s7) ++ (Go.Sa.FirmTable.fBody x))) (Go.IntKind.wrap Go.IntKind.i64 (n4 + (1 : Int))))
                none)
              none)
            none)))
          none)
        none))
      none)))
    none)
  (kN s3 s4))
def l_impl_PutTables_w_0 (N : Nat) {R : Type} (s2 : ByteArray) (n1 : Int) (n2 : Int) (b3 : Bool) (n3 : Int) (l1 : List Go.Sa.FirmTable) (kN : ByteArray → ByteArray → Option R) : Nat → ByteArray → ByteArray → Int → Option R
  | 0, _, _, _ => none
  | f + 1, s3, s4, n4 => s_impl_PutTables_w_0 N s2 n1 n2 b3 n3 l1 s3 s4 n4 (fun s3 s4 n4 => l_impl_PutTables_w_0 N s2 n1 n2 b3 n3 l1 kN f s3 s4 n4)  kN
def c_impl_PutTables_w_0 (N : Nat) {R : Type} (s2 : ByteArray) (n1 : Int) (n2 : Int) (b3 : Bool) (n3 : Int) (l1 : List Go.Sa.FirmTable) (s3 : ByteArray) (s4 : ByteArray) (n4 : Int) (kN : ByteArray → ByteArray → Option R) : Option R := l_impl_PutTables_w_0 N s2 n1 n2 b3 n3 l1 kN N s3 s4 n4
theorem ea_se_impl_PutTables_w_0 (N : Nat) (G_impl_ysplice : ∀ {R : Type} (s : ByteArray) (n : Int) (s1 : ByteArray) (k : ByteArray → Option R), Option R) (G_impl_yfits : ∀ {R : Type} (n : Int) (n1 : Int) (n2 : Int) (k : Bool → Option R), Option R) (G_impl_ywordSum : ∀ {R : Type} (s : ByteArray) (k : Int → Option R), Option R) (G_impl_ybyteSum : ∀ {R : Type} (s : ByteArray) (k : Int → Option R), Option R) (G_impl_PutWord : ∀ {R : Type} (n : Int) (k : ByteArray → Option R), Option R) (G_slices_ContainsFunc_FirmTable_Fimpl_PutTables_1_r : ∀ {R : Type} (b : Bool) (l : List Go.Sa.FirmTable) (k : Bool → Option R), Option R) (G_impl_ymemOk : ∀ {R : Type} (s : ByteArray) (k : Bool → Option R), Option R) {R : Type} (s2 : ByteArray) (n1 : Int) (n2 : Int) (b3 : Bool) (n3 : Int) (l1 : List Go.Sa.FirmTable) (s3 : ByteArray) (s4 : ByteArray) (n4 : Int) (AG : List (Option AV) → Hp E → Option R) (KL : Ex → List (Option AV) → Hp E → Option R) :
    iterStep (E := E) (OA_impl_PutTables_w N G_impl_ysplice G_impl_yfits G_impl_ywordSum G_impl_ybyteSum G_impl_PutWord G_slices_ContainsFunc_FirmTable_Fimpl_PutTables_1_r G_impl_ymemOk) (fun {R} => LI (noIt) 1 111 sl_impl_PutTables_w (R := R)) J_impl_PutTables_w 1 111 0 [0, 1, 7, 8, 9, 46, 47, 48] [0, 1, 7, 9] (body Go.Proofs.Try.f40 0) AG KL [(Option.some (Go.Eng.AV.sc (Go.Eng.SV.str s2))), (Option.some (Go.Eng.AV.sc (Go.Eng.SV.int Go.IntKind.i64 n1))), (Option.some (Go.Eng.AV.sc (Go.Eng.SV.str s3))), (Option.some (Go.Eng.AV.sc (Go.Eng.SV.int Go.IntKind.i64 n2))), (Option.some (Go.Eng.AV.sc (Go.Eng.SV.str s4))), (Option.some (Go.Eng.AV.sc (Go.Eng.SV.slc 0 Option.none b3))), (Option.some (Go.Eng.AV.sc (Go.Eng.SV.int Go.IntKind.i64 n3))), (Option.some (Go.Eng.AV.sc (Go.Eng.SV.int Go.IntKind.i64 n4)))] [(Option.some (Go.Eng.HE.mk Bool.false (Go.Eng.HB.rows (Go.Sa.B.iFirmTable l1))))] =
      ga_s_impl_PutTables_w_0 N G_impl_ysplice G_impl_yfits G_impl_ywordSum G_impl_ybyteSum G_impl_PutWord G_slices_ContainsFunc_FirmTable_Fimpl_PutTables_1_r G_impl_ymemOk s2 n1 n2 b3 n3 l1 s3 s4 n4 (fun s3 s4 n4 => AG [(Option.some (Go.Eng.AV.sc (Go.Eng.SV.str s2))), (Option.some (Go.Eng.AV.sc (Go.Eng.SV.int Go.IntKind.i64 n1))), (Option.some (Go.Eng.AV.sc (Go.Eng.SV.str s3))), (Option.some (Go.Eng.AV.sc (Go.Eng.SV.int Go.IntKind.i64 n2))), (Option.some (Go.Eng.AV.sc (Go.Eng.SV.str s4))), (Option.some (Go.Eng.AV.sc (Go.Eng.SV.slc 0 Option.none b3))), (Option.some (Go.Eng.AV.sc (Go.Eng.SV.int Go.IntKind.i64 n3))), (Option.some (Go.Eng.AV.sc (Go.Eng.SV.int Go.IntKind.i64 n4)))] [(Option.some (Go.Eng.HE.mk Bool.false (Go.Eng.HB.rows (Go.Sa.B.iFirmTable l1))))])  (fun s13 s14 => KL Go.Eng.Ex.normal [(Option.some (Go.Eng.AV.sc (Go.Eng.SV.str s2))), (Option.some (Go.Eng.AV.sc (Go.Eng.SV.int Go.IntKind.i64 n1))), (Option.some (Go.Eng.AV.sc (Go.Eng.SV.str s13))), (Option.some (Go.Eng.AV.sc (Go.Eng.SV.str s14)))] [(Option.some (Go.Eng.HE.mk Bool.false (Go.Eng.HB.rows (Go.Sa.B.iFirmTable l1))))]) := by kernel_rfl
theorem se_impl_PutTables_w_0 (N : Nat) {R : Type} (s2 : ByteArray) (n1 : Int) (n2 : Int) (b3 : Bool) (n3 : Int) (l1 : List Go.Sa.FirmTable) (s3 : ByteArray) (s4 : ByteArray) (n4 : Int) (AG : List (Option AV) → Hp E → Option R) (KL : Ex → List (Option AV) → Hp E → Option R) :
    iterStep (E := E) (O_impl_PutTables_w N) (fun {R} => LI (noIt) 1 111 sl_impl_PutTables_w (R := R)) J_impl_PutTables_w 1 111 0 [0, 1, 7, 8, 9, 46, 47, 48] [0, 1, 7, 9] (body Go.Proofs.Try.f40 0) AG KL [(Option.some (Go.Eng.AV.sc (Go.Eng.SV.str s2))), (Option.some (Go.Eng.AV.sc (Go.Eng.SV.int Go.IntKind.i64 n1))), (Option.some (Go.Eng.AV.sc (Go.Eng.SV.str s3))), (Option.some (Go.Eng.AV.sc (Go.Eng.SV.int Go.IntKind.i64 n2))), (Option.some (Go.Eng.AV.sc (Go.Eng.SV.str s4))), (Option.some (Go.Eng.AV.sc (Go.Eng.SV.slc 0 Option.none b3))), (Option.some (Go.Eng.AV.sc (Go.Eng.SV.int Go.IntKind.i64 n3))), (Option.some (Go.Eng.AV.sc (Go.Eng.SV.int Go.IntKind.i64 n4)))] [(Option.some (Go.Eng.HE.mk Bool.false (Go.Eng.HB.rows (Go.Sa.B.iFirmTable l1))))] =
      s_impl_PutTables_w_0 N s2 n1 n2 b3 n3 l1 s3 s4 n4 (fun s3 s4 n4 => AG [(Option.some (Go.Eng.AV.sc (Go.Eng.SV.str s2))), (Option.some (Go.Eng.AV.sc (Go.Eng.SV.int Go.IntKind.i64 n1))), (Option.some (Go.Eng.AV.sc (Go.Eng.SV.str s3))), (Option.some (Go.Eng.AV.sc (Go.Eng.SV.int Go.IntKind.i64 n2))), (Option.some (Go.Eng.AV.sc (Go.Eng.SV.str s4))), (Option.some (Go.Eng.AV.sc (Go.Eng.SV.slc 0 Option.none b3))), (Option.some (Go.Eng.AV.sc (Go.Eng.SV.int Go.IntKind.i64 n3))), (Option.some (Go.Eng.AV.sc (Go.Eng.SV.int Go.IntKind.i64 n4)))] [(Option.some (Go.Eng.HE.mk Bool.false (Go.Eng.HB.rows (Go.Sa.B.iFirmTable l1))))])  (fun s13 s14 => KL Go.Eng.Ex.normal [(Option.some (Go.Eng.AV.sc (Go.Eng.SV.str s2))), (Option.some (Go.Eng.AV.sc (Go.Eng.SV.int Go.IntKind.i64 n1))), (Option.some (Go.Eng.AV.sc (Go.Eng.SV.str s13))), (Option.some (Go.Eng.AV.sc (Go.Eng.SV.str s14)))] [(Option.some (Go.Eng.HE.mk Bool.false (Go.Eng.HB.rows (Go.Sa.B.iFirmTable l1))))]) := castPr (by kernel_rfl) (ea_se_impl_PutTables_w_0 N (g_impl_ysplice N) (g_impl_yfits N) (g_impl_ywordSum N) (g_impl_ybyteSum N) (g_impl_PutWord N) (g_slices_ContainsFunc_FirmTable_Fimpl_PutTables_1_r N) (g_impl_ymemOk N) s2 n1 n2 b3 n3 l1 s3 s4 n4 AG KL)
theorem le_impl_PutTables_w_0 (N : Nat) {R : Type} (s2 : ByteArray) (n1 : Int) (n2 : Int) (b3 : Bool) (n3 : Int) (l1 : List Go.Sa.FirmTable) (KL : Ex → List (Option AV) → Hp E → Option R) : ∀ (f : Nat), ∀ (s3 : ByteArray) (s4 : ByteArray) (n4 : Int), iterK (E := E) (O_impl_PutTables_w N) (fun {R} => LI (noIt) 1 111 sl_impl_PutTables_w (R := R)) J_impl_PutTables_w 1 111 0 [0, 1, 7, 8, 9, 46, 47, 48] [0, 1, 7, 9] (body Go.Proofs.Try.f40 0) f [(Option.some (Go.Eng.AV.sc (Go.Eng.SV.str s2))), (Option.some (Go.Eng.AV.sc (Go.Eng.SV.int Go.IntKind.i64 n1))), (Option.some (Go.Eng.AV.sc (Go.Eng.SV.str s3))), (Option.some (Go.Eng.AV.sc (Go.Eng.SV.int Go.IntKind.i64 n2))), (Option.some (Go.Eng.AV.sc (Go.Eng.SV.str s4))), (Option.some (Go.Eng.AV.sc (Go.Eng.SV.slc 0 Option.none b3))), (Option.some (Go.Eng.AV.sc (Go.Eng.SV.int Go.IntKind.i64 n3))), (Option.some (Go.Eng.AV.sc (Go.Eng.SV.int Go.IntKind.i64 n4)))] [(Option.some (Go.Eng.HE.mk Bool.false (Go.Eng.HB.rows (Go.Sa.B.iFirmTable l1))))] KL = l_impl_PutTables_w_0 N s2 n1 n2 b3 n3 l1 (fun s13 s14 => KL Go.Eng.Ex.normal [(Option.some (Go.Eng.AV.sc (Go.Eng.SV.str s2))), (Option.some (Go.Eng.AV.sc (Go.Eng.SV.int Go.IntKind.i64 n1))), (Option.some (Go.Eng.AV.sc (Go.Eng.SV.str s13))), (Option.some (Go.Eng.AV.sc (Go.Eng.SV.str s14)))] [(Option.some (Go.Eng.HE.mk Bool.false (Go.Eng.HB.rows (Go.Sa.B.iFirmTable l1))))]) f s3 s4 n4 := by
  intro f
  induction f with
  | zero => intros; rfl
  | succ f ih =>
    intro s3 s4 n4
    rw [iterK_succ, se_impl_PutTables_w_0]
    exact (congrArg (fun z0 => s_impl_PutTables_w_0 N s2 n1 n2 b3 n3 l1 s3 s4 n4 z0 (fun s13 s14 => KL Go.Eng.Ex.normal [(Option.some (Go.Eng.AV.sc (Go.Eng.SV.str s2))), (Option.some (Go.Eng.AV.sc (Go.Eng.SV.int Go.IntKind.i64 n1))), (Option.some (Go.Eng.AV.sc (Go.Eng.SV.str s13))), (Option.some (Go.Eng.AV.sc (Go.Eng.SV.str s14)))] [(Option.some (Go.Eng.HE.mk Bool.false (Go.Eng.HB.rows (Go.Sa.B.iFirmTable l1))))])) (funext fun s3 => funext fun s4 => funext fun n4 => ih s3 s4 n4))
def i_impl_PutTables_w_0 (N : Nat) {R : Type} (vs : List (Option AV)) (H : Hp E) (KL : Ex → List (Option AV) → Hp E → Option R) : Option R :=
  match vs, H with
  | [(Option.some (Go.Eng.AV.sc (Go.Eng.SV.str s2))), (Option.some (Go.Eng.AV.sc (Go.Eng.SV.int Go.IntKind.i64 n1))), (Option.some (Go.Eng.AV.sc (Go.Eng.SV.str s3))), (Option.some (Go.Eng.AV.sc (Go.Eng.SV.int Go.IntKind.i64 n2))), (Option.some (Go.Eng.AV.sc (Go.Eng.SV.str s4))), (Option.some (Go.Eng.AV.sc (Go.Eng.SV.slc 0 Option.none b3))), (Option.some (Go.Eng.AV.sc (Go.Eng.SV.int Go.IntKind.i64 n3))), (Option.some (Go.Eng.AV.sc (Go.Eng.SV.int Go.IntKind.i64 n4)))], [(Option.some (Go.Eng.HE.mk Bool.false (Go.Eng.HB.rows (Go.Sa.B.iFirmTable l1))))] => c_impl_PutTables_w_0 N s2 n1 n2 b3 n3 l1 s3 s4 n4 (fun s15 s16 => KL Go.Eng.Ex.normal [(Option.some (Go.Eng.AV.sc (Go.Eng.SV.str s2))), (Option.some (Go.Eng.AV.sc (Go.Eng.SV.int Go.IntKind.i64 n1))), (Option.some (Go.Eng.AV.sc (Go.Eng.SV.str s15))), (Option.some (Go.Eng.AV.sc (Go.Eng.SV.str s16)))] [(Option.some (Go.Eng.HE.mk Bool.false (Go.Eng.HB.rows (Go.Sa.B.iFirmTable l1))))])
  | _, _ => none
noncomputable def IT_impl_PutTables_w_0 (N : Nat) : Its E := addIt 0 (i_impl_PutTables_w_0 N) (noIt)
theorem IT_impl_PutTables_w_0_ok (N : Nat) : ItOk (IT_impl_PutTables_w_0 N) 1 111 sl_impl_PutTables_w (lsB Go.Proofs.Try.f40 [0]) :=
  addItB_ok (inner := []) ok (O_impl_PutTables_w_ok N) (jn_ok _ _ _) (noIt_ok) rfl (by kernel_rfl) rfl fun vs H KL r h => by
    unfold i_impl_PutTables_w_0 at h
    split at h
    · exact ⟨_, (le_impl_PutTables_w_0 N _ _ _ _ _ _ KL N _ _ _).trans h⟩
    · cases h
def g_impl_PutTables_w (N : Nat) {R : Type} (s : ByteArray) (n : Int) (b : Bool) (l : List Go.Sa.FirmTable) (k : ByteArray → Option R) : Option R :=
  (oK (g_impl_ymemOk N s fun b1 =>
    (cond (!b1)
    (some Bool.true)
    (cond (decide ((n < (0 : Int))))
      (some Bool.true)
      (cond ((Int.tmod n (4 : Int)) != (0 : Int))
        (some Bool.true)
        (cond (decide (((((List.length l) : Nat) : Int) > (10 : Int))))
          (some Bool.true)
          (g_slices_ContainsFunc_FirmTable_Fimpl_PutTables_1_r N b l fun b2 =>
            (some b2))))))) fun j =>
  (cond j
  (k (ByteArray.mk (List.toArray [])))
  (g_impl_PutWord N (((List.length l) : Nat) : Int) fun s1 =>
    (cond (Nat.ble (4 + (ByteArray.size s1)) 9223372036854775807)
    (c_impl_PutTables_w_0 N s n (Go.IntKind.wrap Go.IntKind.i64 ((Go.IntKind.wrap Go.IntKind.i64 (n + (12 : Int))) + (Go.IntKind.wrap Go.IntKind.i64 ((4 : Int) * (((List.length l) : Nat) : Int))))) b (((List.length l) : Nat) : Int) l ((ByteArray.mk (List.toArray [(70 : UInt8), (73 : UInt8), (82 : UInt8), (77 : UInt8)])) ++ s1) (ByteArray.mk (List.toArray [])) (0 : Int) fun s8 s9 =>
      (g_impl_ywordSum N s8 fun n6 =>
      (g_impl_PutWord N (Go.IntKind.wrap Go.IntKind.i64 ((0 : Int) - n6)) fun s10 =>
      (cond (Nat.ble ((ByteArray.size s8) + (ByteArray.size s10)) 9223372036854775807)
      (cond (Nat.ble ((ByteArray.size (s8 ++ s10)) + (ByteArray.size s9)) 9223372036854775807)
        (g_impl_yfits N (((ByteArray.size s) : Nat) : Int) n (((ByteArray.size ((s8 ++ s10) ++ s9)) : Nat) : Int) fun b4 =>
          (cond (!b4)
          (k (ByteArray.mk (List.toArray [])))
          (g_impl_ysplice N s n ((s8 ++ s10) ++ s9) fun s11 =>
            (k s11))))
        none)
      none))))
    none))))
def ga_g_impl_PutTables_w (N : Nat) (G_impl_ysplice : ∀ {R : Type} (s : ByteArray) (n : Int) (s1 : ByteArray) (k : ByteArray → Option R), Option R) (G_impl_yfits : ∀ {R : Type} (n : Int) (n1 : Int) (n2 : Int) (k : Bool → Option R), Option R) (G_impl_ywordSum : ∀ {R : Type} (s : ByteArray) (k : Int → Option R), Option R) (G_impl_ybyteSum : ∀ {R : Type} (s : ByteArray) (k : Int → Option R), Option R) (G_impl_PutWord : ∀ {R : Type} (n : Int) (k : ByteArray → Option R), Option R) (G_slices_ContainsFunc_FirmTable_Fimpl_PutTables_1_r : ∀ {R : Type} (b : Bool) (l : List Go.Sa.FirmTable) (k : Bool → Option R), Option R) (G_impl_ymemOk : ∀ {R : Type} (s : ByteArray) (k : Bool → Option R), Option R) {R : Type} (s : ByteArray) (n : Int) (b : Bool) (l : List Go.Sa.FirmTable) (k : ByteArray → Option R) : Option R :=
  (oK (G_impl_ymemOk s fun b1 =>
    (cond (!b1)
    (some Bool.true)
    (cond (decide ((n < (0 : Int))))
      (some Bool.true)
      (cond ((Int.tmod n (4 : Int)) != (0 : Int))
        (some Bool.true)
        (cond (decide (((((List.length l) : Nat) : Int) > (10 : Int))))
          (some Bool.true)
          (G_slices_ContainsFunc_FirmTable_Fimpl_PutTables_1_r b l fun b2 =>
            (some b2))))))) fun j =>
  (cond j
  (k (ByteArray.mk (List.toArray [])))
  (G_impl_PutWord (((List.length l) : Nat) : Int) fun s1 =>
    (cond (Nat.ble (4 + (ByteArray.size s1)) 9223372036854775807)
    (c_impl_PutTables_w_0 N s n (Go.IntKind.wrap Go.IntKind.i64 ((Go.IntKind.wrap Go.IntKind.i64 (n + (12 : Int))) + (Go.IntKind.wrap Go.IntKind.i64 ((4 : Int) * (((List.length l) : Nat) : Int))))) b (((List.length l) : Nat) : Int) l ((ByteArray.mk (List.toArray [(70 : UInt8), (73 : UInt8), (82 : UInt8), (77 : UInt8)])) ++ s1) (ByteArray.mk (List.toArray [])) (0 : Int) fun s8 s9 =>
      (G_impl_ywordSum s8 fun n6 =>
      (G_impl_PutWord (Go.IntKind.wrap Go.IntKind.i64 ((0 : Int) - n6)) fun s10 =>
      (cond (Nat.ble ((ByteArray.size s8) + (ByteArray.size s10)) 9223372036854775807)
      (cond (Nat.ble ((ByteArray.size (s8 ++ s10)) + (ByteArray.size s9)) 9223372036854775807)
        (G_impl_yfits (((ByteArray.size s) : Nat) : Int) n (((ByteArray.size ((s8 ++ s10) ++ s9)) : Nat) : Int) fun b4 =>
          (cond (!b4)
          (k (ByteArray.mk (List.toArray [])))
          (G_impl_ysplice s n ((s8 ++ s10) ++ s9) fun s11 =>
            (k s11))))
        none)
      none))))
    none))))
theorem ea_e_impl_PutTables_w (N : Nat) (G_impl_ysplice : ∀ {R : Type} (s : ByteArray) (n : Int) (s1 : ByteArray) (k : ByteArray → Option R), Option R) (G_impl_yfits : ∀ {R : Type} (n : Int) (n1 : Int) (n2 : Int) (k : Bool → Option R), Option R) (G_impl_ywordSum : ∀ {R : Type} (s : ByteArray) (k : Int → Option R), Option R) (G_impl_ybyteSum : ∀ {R : Type} (s : ByteArray) (k : Int → Option R), Option R) (G_impl_PutWord : ∀ {R : Type} (n : Int) (k : ByteArray → Option R), Option R) (G_slices_ContainsFunc_FirmTable_Fimpl_PutTables_1_r : ∀ {R : Type} (b : Bool) (l : List Go.Sa.FirmTable) (k : Bool → Option R), Option R) (G_impl_ymemOk : ∀ {R : Type} (s : ByteArray) (k : Bool → Option R), Option R) {R : Type} (s : ByteArray) (n : Int) (b : Bool) (l : List Go.Sa.FirmTable) (K : AV → Hp E → Option R) :
    runFnI (E := E) (OA_impl_PutTables_w N G_impl_ysplice G_impl_yfits G_impl_ywordSum G_impl_ybyteSum G_impl_PutWord G_slices_ContainsFunc_FirmTable_Fimpl_PutTables_1_r G_impl_ymemOk) (IT_impl_PutTables_w_0 N) sl_impl_PutTables_w J_impl_PutTables_w Go.Proofs.Try.f40 [(Go.Eng.AV.sc (Go.Eng.SV.str s)), (Go.Eng.AV.sc (Go.Eng.SV.int Go.IntKind.i64 n)), (Go.Eng.AV.sc (Go.Eng.SV.slc 0 Option.none b))] [(Option.some (Go.Eng.HE.mk Bool.false (Go.Eng.HB.rows (Go.Sa.B.iFirmTable l))))] K =
      ga_g_impl_PutTables_w N G_impl_ysplice G_impl_yfits G_impl_ywordSum G_impl_ybyteSum G_impl_PutWord G_slices_ContainsFunc_FirmTable_Fimpl_PutTables_1_r G_impl_ymemOk s n b l (fun s12 => K (Go.Eng.AV.sc (Go.Eng.SV.str s12)) [(Option.some (Go.Eng.HE.mk Bool.false (Go.Eng.HB.rows (Go.Sa.B.iFirmTable l))))]) := by kernel_rfl
theorem e_impl_PutTables_w (N : Nat) {R : Type} (s : ByteArray) (n : Int) (b : Bool) (l : List Go.Sa.FirmTable) (K : AV → Hp E → Option R) :
    runFnI (E := E) (O_impl_PutTables_w N) (IT_impl_PutTables_w_0 N) sl_impl_PutTables_w J_impl_PutTables_w Go.Proofs.Try.f40 [(Go.Eng.AV.sc (Go.Eng.SV.str s)), (Go.Eng.AV.sc (Go.Eng.SV.int Go.IntKind.i64 n)), (Go.Eng.AV.sc (Go.Eng.SV.slc 0 Option.none b))] [(Option.some (Go.Eng.HE.mk Bool.false (Go.Eng.HB.rows (Go.Sa.B.iFirmTable l))))] K =
      g_impl_PutTables_w N s n b l (fun s12 => K (Go.Eng.AV.sc (Go.Eng.SV.str s12)) [(Option.some (Go.Eng.HE.mk Bool.false (Go.Eng.HB.rows (Go.Sa.B.iFirmTable l))))]) := castPr (by kernel_rfl) (ea_e_impl_PutTables_w N (g_impl_ysplice N) (g_impl_yfits N) (g_impl_ywordSum N) (g_impl_ybyteSum N) (g_impl_PutWord N) (g_slices_ContainsFunc_FirmTable_Fimpl_PutTables_1_r N) (g_impl_ymemOk N) s n b l K)
def o_impl_PutTables_w (N : Nat) {R : Type} (args : List AV) (H : Hp E) (K : AV → Hp E → Option R) : Option R :=
  match args, H with
  | [(Go.Eng.AV.sc (Go.Eng.SV.str s)), (Go.Eng.AV.sc (Go.Eng.SV.int Go.IntKind.i64 n)), (Go.Eng.AV.sc (Go.Eng.SV.slc 0 Option.none b))], [(Option.some (Go.Eng.HE.mk Bool.false (Go.Eng.HB.rows (Go.Sa.B.iFirmTable l))))] => g_impl_PutTables_w N s n b l (fun s12 => K (Go.Eng.AV.sc (Go.Eng.SV.str s12)) [(Option.some (Go.Eng.HE.mk Bool.false (Go.Eng.HB.rows (Go.Sa.B.iFirmTable l))))])
  | _, _ => none
theorem o_impl_PutTables_w_ok (N : Nat) : FnOk E 40 (o_impl_PutTables_w N) := by
  intro R args H K r h
  unfold o_impl_PutTables_w at h
  dsimp only at h
  split at h
  · exact fnB_ok (ids := [0]) (top := [0]) ok (O_impl_PutTables_w_ok N) (jn_ok _ _ _) Go.Proofs.Try.func40 (by kernel_rfl) (IT := IT_impl_PutTables_w_0 N) (sl := sl_impl_PutTables_w) (J := J_impl_PutTables_w) (K := K) (H := [(Option.some (Go.Eng.HE.mk Bool.false (Go.Eng.HB.rows (Go.Sa.B.iFirmTable _))))]) (IT_impl_PutTables_w_0_ok N) (by kernel_rfl) rfl ((e_impl_PutTables_w N _ _ _ _ K).trans h)
  · cases h
/-! ### loop.example/g00038/spec.MemFault -/
abbrev sl_spec_MemFault : SlotT := []
abbrev J_spec_MemFault : JT := jn [(1, [(16, .b)])] [] []
noncomputable def O_spec_MemFault (N : Nat) : Orc E := noFn
theorem O_spec_MemFault_ok (N : Nat) : OrcOk (O_spec_MemFault N) := noFn_ok
def g_spec_MemFault (N : Nat) {R : Type} (s : ByteArray) (k : Int → Option R) : Option R :=
  (oK (cond ((((ByteArray.size s) : Nat) : Int) == (0 : Int))
    (some Bool.true)
    (cond ((Int.tmod (((ByteArray.size s) : Nat) : Int) (256 : Int)) != (0 : Int))
      (some Bool.true)
      (some (decide (((((ByteArray.size s) : Nat) : Int) > (65536 : Int))))))) fun j =>
  (cond j
  (k (1 : Int))
  (k (0 : Int))))
theorem e_spec_MemFault (N : Nat) {R : Type} (s : ByteArray) (K : AV → Hp E → Option R) :
    runFnI (E := E) (O_spec_MemFault N) (noIt) sl_spec_MemFault J_spec_MemFault Go.Proofs.Try.f58 [(Go.Eng.AV.sc (Go.Eng.SV.str s))] [] K =
      g_spec_MemFault N s (fun n => K (Go.Eng.AV.sc (Go.Eng.SV.int Go.IntKind.i64 n)) []) := by kernel_rfl
def o_spec_MemFault (N : Nat) {R : Type} (args : List AV) (H : Hp E) (K : AV → Hp E → Option R) : Option R :=
  match args, H with
  | [(Go.Eng.AV.sc (Go.Eng.SV.str s))], [] => g_spec_MemFault N s (fun n => K (Go.Eng.AV.sc (Go.Eng.SV.int Go.IntKind.i64 n)) [])
  | _, _ => none
theorem o_spec_MemFault_ok (N : Nat) : FnOk E 58 (o_spec_MemFault N) := by
  intro R args H K r h
  unfold o_spec_MemFault at h
  dsimp only at h
  split at h
  · exact fnB_ok (ids := []) (top := []) ok (O_spec_MemFault_ok N) (jn_ok _ _ _) Go.Proofs.Try.func58 (by kernel_rfl) (IT := noIt) (sl := sl_spec_MemFault) (J := J_spec_MemFault) (K := K) (H := []) (noIt_ok) (by kernel_rfl) rfl ((e_spec_MemFault N _ K).trans h)
  · cases h
/-! ### loop.example/g00038/spec.l21Name -/
abbrev sl_spec_l21Name : SlotT := [(0, ([0, 3], [2]))]
abbrev J_spec_l21Name : JT := jn [(6, [(20, .b)])] [] []
noncomputable def O_spec_l21Name (N : Nat) : Orc E := noFn
theorem O_spec_l21Name_ok (N : Nat) : OrcOk (O_spec_l21Name N) := noFn_ok
def s_spec_l21Name_0 (N : Nat) {R : Type} (s1 : ByteArray) (n : Int) (ag : Int → Option R)  (kR : Option R) (kN : Option R) : Option R :=
  (cond (decide ((n < (4 : Int))))
  (oK (cond ((decide (((0 : Int) ≤ n))) && (decide ((n < (((ByteArray.size s1) : Nat) : Int)))))
      (cond (decide (((Go.Eng.bt s1 (Int.toNat n)) < (65 : Int))))
        (some Bool.true)
        (cond ((decide (((0 : Int) ≤ n))) && (decide ((n < (((ByteArray.size s1) : Nat) : Int)))))
          (some (decide (((Go.Eng.bt s1 (Int.toNat n)) > (90 : Int)))))
          none))
      none) fun j =>
    (cond j
    kR
    (ag (Go.IntKind.wrap Go.IntKind.i64 (n + (1 : Int))))))
  kN)
def l_spec_l21Name_0 (N : Nat) {R : Type} (s1 : ByteArray) (kR : Option R) (kN : Option R) : Nat → Int → Option R
  | 0, _ => none
  | f + 1, n => s_spec_l21Name_0 N s1 n (fun n => l_spec_l21Name_0 N s1 kR kN f n)  kR kN
def c_spec_l21Name_0 (N : Nat) {R : Type} (s1 : ByteArray) (n : Int) (kR : Option R) (kN : Option R) : Option R := l_spec_l21Name_0 N s1 kR kN N n
theorem se_spec_l21Name_0 (N : Nat) {R : Type} (s1 : ByteArray) (n : Int) (AG : List (Option AV) → Hp E → Option R) (KL : Ex → List (Option AV) → Hp E → Option R) :
    iterStep (E := E) (O_spec_l21Name N) (fun {R} => LI (noIt) 0 21 sl_spec_l21Name (R := R)) J_spec_l21Name 0 21 0 [0, 3] [2] (body Go.Proofs.Try.f159 0) AG KL [(Option.some (Go.Eng.AV.sc (Go.Eng.SV.str s1))), (Option.some (Go.Eng.AV.sc (Go.Eng.SV.int Go.IntKind.i64 n)))] [] =
      s_spec_l21Name_0 N s1 n (fun n => AG [(Option.some (Go.Eng.AV.sc (Go.Eng.SV.str s1))), (Option.some (Go.Eng.AV.sc (Go.Eng.SV.int Go.IntKind.i64 n)))] [])  (KL Go.Eng.Ex.ret [(Option.some (Go.Eng.AV.sc (Go.Eng.SV.bool Bool.false)))] []) (KL Go.Eng.Ex.normal [Option.none] []) := by kernel_rfl
theorem le_spec_l21Name_0 (N : Nat) {R : Type} (s1 : ByteArray) (KL : Ex → List (Option AV) → Hp E → Option R) : ∀ (f : Nat), ∀ (n : Int), iterK (E := E) (O_spec_l21Name N) (fun {R} => LI (noIt) 0 21 sl_spec_l21Name (R := R)) J_spec_l21Name 0 21 0 [0, 3] [2] (body Go.Proofs.Try.f159 0) f [(Option.some (Go.Eng.AV.sc (Go.Eng.SV.str s1))), (Option.some (Go.Eng.AV.sc (Go.Eng.SV.int Go.IntKind.i64 n)))] [] KL = l_spec_l21Name_0 N s1 (KL Go.Eng.Ex.ret [(Option.some (Go.Eng.AV.sc (Go.Eng.SV.bool Bool.false)))] []) (KL Go.Eng.Ex.normal [Option.none] []) f n := by
  intro f
  induction f with
  | zero => intros; rfl
  | succ f ih =>
    intro n
    rw [iterK_succ, se_spec_l21Name_0]
    exact (congrArg (fun z0 => s_spec_l21Name_0 N s1 n z0 (KL Go.Eng.Ex.ret [(Option.some (Go.Eng.AV.sc (Go.Eng.SV.bool Bool.false)))] []) (KL Go.Eng.Ex.normal [Option.none] [])) (funext fun n => ih n))
def i_spec_l21Name_0 (N : Nat) {R : Type} (vs : List (Option AV)) (H : Hp E) (KL : Ex → List (Option AV) → Hp E → Option R) : Option R :=
  match vs, H with
  | [(Option.some (Go.Eng.AV.sc (Go.Eng.SV.str s1))), (Option.some (Go.Eng.AV.sc (Go.Eng.SV.int Go.IntKind.i64 n)))], [] => c_spec_l21Name_0 N s1 n (KL Go.Eng.Ex.ret [(Option.some (Go.Eng.AV.sc (Go.Eng.SV.bool Bool.false)))] []) (KL Go.Eng.Ex.normal [Option.none] [])
  | _, _ => none
noncomputable def IT_spec_l21Name_0 (N : Nat) : Its E := addIt 0 (i_spec_l21Name_0 N) (noIt)
theorem IT_spec_l21Name_0_ok (N : Nat) : ItOk (IT_spec_l21Name_0 N) 0 21 sl_spec_l21Name (lsB Go.Proofs.Try.f159 [0]) :=
  addItB_ok (inner := []) ok (O_spec_l21Name_ok N) (jn_ok _ _ _) (noIt_ok) rfl (by kernel_rfl) rfl fun vs H KL r h => by
    unfold i_spec_l21Name_0 at h
    split at h
    · exact ⟨_, (le_spec_l21Name_0 N _ KL N _).trans h⟩
    · cases h
def g_spec_l21Name (N : Nat) {R : Type} (s : ByteArray) (k : Bool → Option R) : Option R :=
  (cond ((((ByteArray.size s) : Nat) : Int) != (4 : Int))
  (k Bool.false)
  (c_spec_l21Name_0 N s (0 : Int) (
    (k Bool.false)) (
    (k Bool.true))))
theorem e_spec_l21Name (N : Nat) {R : Type} (s : ByteArray) (K : AV → Hp E → Option R) :
    runFnI (E := E) (O_spec_l21Name N) (IT_spec_l21Name_0 N) sl_spec_l21Name J_spec_l21Name Go.Proofs.Try.f159 [(Go.Eng.AV.sc (Go.Eng.SV.str s))] [] K =
      g_spec_l21Name N s (fun b => K (Go.Eng.AV.sc (Go.Eng.SV.bool b)) []) := by kernel_rfl
def o_spec_l21Name (N : Nat) {R : Type} (args : List AV) (H : Hp E) (K : AV → Hp E → Option R) : Option R :=
  match args, H with
  | [(Go.Eng.AV.sc (Go.Eng.SV.str s))], [] => g_spec_l21Name N s (fun b => K (Go.Eng.AV.sc (Go.Eng.SV.bool b)) [])
  | _, _ => none
theorem o_spec_l21Name_ok (N : Nat) : FnOk E 159 (o_spec_l21Name N) := by
  intro R args H K r h
  unfold o_spec_l21Name at h
  dsimp only at h
  split at h
  · exact fnB_ok (ids := [0]) (top := [0]) ok (O_spec_l21Name_ok N) (jn_ok _ _ _) Go.Proofs.Try.func159 (by kernel_rfl) (IT := IT_spec_l21Name_0 N) (sl := sl_spec_l21Name) (J := J_spec_l21Name) (K := K) (H := []) (IT_spec_l21Name_0_ok N) (by kernel_rfl) rfl ((e_spec_l21Name N _ K).trans h)
  · cases h
/-! ### loop.example/g00038/spec.l21Bytes -/
abbrev sl_spec_l21Bytes : SlotT := [(0, ([0, 3, 4], [3]))]
abbrev J_spec_l21Bytes : JT := jn [] [] []
noncomputable def O_spec_l21Bytes (N : Nat) : Orc E := noFn
theorem O_spec_l21Bytes_ok (N : Nat) : OrcOk (O_spec_l21Bytes N) := noFn_ok
def s_spec_l21Bytes_0 (N : Nat) {R : Type} (s1 : ByteArray) (n : Int) (n1 : Int) (ag : Int → Int → Option R)  (kN : Int → Option R) : Option R :=
  (cond (decide ((n1 < (((ByteArray.size s1) : Nat) : Int))))
  (cond ((decide (((0 : Int) ≤ n1))) && (decide ((n1 < (((ByteArray.size s1) : Nat) : Int)))))
    (ag (Go.IntKind.wrap Go.IntKind.i64 (n + (Go.IntKind.wrap Go.IntKind.i64 (Go.Eng.bt s1 (Int.toNat n1))))) (Go.IntKind.wrap Go.IntKind.i64 (n1 + (1 : Int))))
    none)
  (kN n))
def l_spec_l21Bytes_0 (N : Nat) {R : Type} (s1 : ByteArray) (kN : Int → Option R) : Nat → Int → Int → Option R
  | 0, _, _ => none
  | f + 1, n, n1 => s_spec_l21Bytes_0 N s1 n n1 (fun n n1 => l_spec_l21Bytes_0 N s1 kN f n n1)  kN
def c_spec_l21Bytes_0 (N : Nat) {R : Type} (s1 : ByteArray) (n : Int) (n1 : Int) (kN : Int → Option R) : Option R := l_spec_l21Bytes_0 N s1 kN N n n1
theorem se_spec_l21Bytes_0 (N : Nat) {R : Type} (s1 : ByteArray) (n : Int) (n1 : Int) (AG : List (Option AV) → Hp E → Option R) (KL : Ex → List (Option AV) → Hp E → Option R) :
    iterStep (E := E) (O_spec_l21Bytes N) (fun {R} => LI (noIt) 0 18 sl_spec_l21Bytes (R := R)) J_spec_l21Bytes 0 18 0 [0, 3, 4] [3] (body Go.Proofs.Try.f160 0) AG KL [(Option.some (Go.Eng.AV.sc (Go.Eng.SV.str s1))), (Option.some (Go.Eng.AV.sc (Go.Eng.SV.int Go.IntKind.i64 n))), (Option.some (Go.Eng.AV.sc (Go.Eng.SV.int Go.IntKind.i64 n1)))] [] =
      s_spec_l21Bytes_0 N s1 n n1 (fun n n1 => AG [(Option.some (Go.Eng.AV.sc (Go.Eng.SV.str s1))), (Option.some (Go.Eng.AV.sc (Go.Eng.SV.int Go.IntKind.i64 n))), (Option.some (Go.Eng.AV.sc (Go.Eng.SV.int Go.IntKind.i64 n1)))] [])  (fun n4 => KL Go.Eng.Ex.normal [(Option.some (Go.Eng.AV.sc (Go.Eng.SV.int Go.IntKind.i64 n4)))] []) := by kernel_rfl
theorem le_spec_l21Bytes_0 (N : Nat) {R : Type} (s1 : ByteArray) (KL : Ex → List (Option AV) → Hp E → Option R) : ∀ (f : Nat), ∀ (n : Int) (n1 : Int), iterK (E := E) (O_spec_l21Bytes N) (fun {R} => LI (noIt) 0 18 sl_spec_l21Bytes (R := R)) J_spec_l21Bytes 0 18 0 [0, 3, 4] [3] (body Go.Proofs.Try.f160 0) f [(Option.some (Go.Eng.AV.sc (Go.Eng.SV.str s1))), (Option.some (Go.Eng.AV.sc (Go.Eng.SV.int Go.IntKind.i64 n))), (Option.some (Go.Eng.AV.sc (Go.Eng.SV.int Go.IntKind.i64 n1)))] [] KL = l_spec_l21Bytes_0 N s1 (fun n4 => KL Go.Eng.Ex.normal [(Option.some (Go.Eng.AV.sc (Go.Eng.SV.int Go.IntKind.i64 n4)))] []) f n n1 := by
  intro f
  induction f with
  | zero => intros; rfl
  | succ f ih =>
    intro n n1
    rw [iterK_succ, se_spec_l21Bytes_0]
    exact (congrArg (fun z0 => s_spec_l21Bytes_0 N s1 n n1 z0 (fun n4 => KL Go.Eng.Ex.normal [(Option.some (Go.Eng.AV.sc (Go.Eng.SV.int Go.IntKind.i64 n4)))] [])) (funext fun n => funext fun n1 => ih n n1))
def i_spec_l21Bytes_0 (N : Nat) {R : Type} (vs : List (Option AV)) (H : Hp E) (KL : Ex → List (Option AV) → Hp E → Option R) : Option R :=
  match vs, H with
  | [(Option.some (Go.Eng.AV.sc (Go.Eng.SV.str s1))), (Option.some (Go.Eng.AV.sc (Go.Eng.SV.int Go.IntKind.i64 n))), (Option.some (Go.Eng.AV.sc (Go.Eng.SV.int Go.IntKind.i64 n1)))], [] => c_spec_l21Bytes_0 N s1 n n1 (fun n5 => KL Go.Eng.Ex.normal [(Option.some (Go.Eng.AV.sc (Go.Eng.SV.int Go.IntKind.i64 n5)))] [])
  | _, _ => none
noncomputable def IT_spec_l21Bytes_0 (N : Nat) : Its E := addIt 0 (i_spec_l21Bytes_0 N) (noIt)
theorem IT_spec_l21Bytes_0_ok (N : Nat) : ItOk (IT_spec_l21Bytes_0 N) 0 18 sl_spec_l21Bytes (lsB Go.Proofs.Try.f160 [0]) :=
  addItB_ok (inner := []) ok (O_spec_l21Bytes_ok N) (jn_ok _ _ _) (noIt_ok) rfl (by kernel_rfl) rfl fun vs H KL r h => by
    unfold i_spec_l21Bytes_0 at h
    split at h
    · exact ⟨_, (le_spec_l21Bytes_0 N _ KL N _ _).trans h⟩
    · cases h
def g_spec_l21Bytes (N : Nat) {R : Type} (s : ByteArray) (k : Int → Option R) : Option R :=
  (c_spec_l21Bytes_0 N s (0 : Int) (0 : Int) fun n2 =>
  (k n2))
theorem e_spec_l21Bytes (N : Nat) {R : Type} (s : ByteArray) (K : AV → Hp E → Option R) :
    runFnI (E := E) (O_spec_l21Bytes N) (IT_spec_l21Bytes_0 N) sl_spec_l21Bytes J_spec_l21Bytes Go.Proofs.Try.f160 [(Go.Eng.AV.sc (Go.Eng.SV.str s))] [] K =
      g_spec_l21Bytes N s (fun n3 => K (Go.Eng.AV.sc (Go.Eng.SV.int Go.IntKind.i64 n3)) []) := by kernel_rfl
def o_spec_l21Bytes (N : Nat) {R : Type} (args : List AV) (H : Hp E) (K : AV → Hp E → Option R) : Option R :=
  match args, H with
  | [(Go.Eng.AV.sc (Go.Eng.SV.str s))], [] => g_spec_l21Bytes N s (fun n3 => K (Go.Eng.AV.sc (Go.Eng.SV.int Go.IntKind.i64 n3)) [])
  | _, _ => none
theorem o_spec_l21Bytes_ok (N : Nat) : FnOk E 160 (o_spec_l21Bytes N) := by
  intro R args H K r h
  unfold o_spec_l21Bytes at h
  dsimp only at h
  split at h
  · exact fnB_ok (ids := [0]) (top := [0]) ok (O_spec_l21Bytes_ok N) (jn_ok _ _ _) Go.Proofs.Try.func160 (by kernel_rfl) (IT := IT_spec_l21Bytes_0 N) (sl := sl_spec_l21Bytes) (J := J_spec_l21Bytes) (K := K) (H := []) (IT_spec_l21Bytes_0_ok N) (by kernel_rfl) rfl ((e_spec_l21Bytes N _ K).trans h)
  · cases h
/-! ### loop.example/g00038/spec.l21Table -/
abbrev sl_spec_l21Table : SlotT := []
abbrev J_spec_l21Table : JT := jn [(1, [(30, .b)])] [] []
noncomputable def O_spec_l21Table (N : Nat) : Orc E := addFn 158 (o_spec_l01Mod N) (addFn 160 (o_spec_l21Bytes N) (addFn 109 (o_spec_PutWord N) (addFn 159 (o_spec_l21Name N) (noFn))))
def pa_spec_l21Table__o_spec_l01Mod (N : Nat) (G_spec_l01Mod : ∀ {R : Type} (n : Int) (n1 : Int) (k : Int → Option R), Option R) (G_spec_l21Bytes : ∀ {R : Type} (s : ByteArray) (k : Int → Option R), Option R) (G_spec_PutWord : ∀ {R : Type} (n : Int) (k : ByteArray → Option R), Option R) (G_spec_l21Name : ∀ {R : Type} (s : ByteArray) (k : Bool → Option R), Option R) {R : Type} (args : List AV) (H : Hp E) (K : AV → Hp E → Option R) : Option R :=
  match args, H with
  | [(Go.Eng.AV.sc (Go.Eng.SV.int Go.IntKind.i64 n)), (Go.Eng.AV.sc (Go.Eng.SV.int Go.IntKind.i64 n1))], [] => G_spec_l01Mod n n1 (fun n2 => K (Go.Eng.AV.sc (Go.Eng.SV.int Go.IntKind.i64 n2)) [])
  | _, _ => none
def pa_spec_l21Table__o_spec_l21Bytes (N : Nat) (G_spec_l01Mod : ∀ {R : Type} (n : Int) (n1 : Int) (k : Int → Option R), Option R) (G_spec_l21Bytes : ∀ {R : Type} (s : ByteArray) (k : Int → Option R), Option R) (G_spec_PutWord : ∀ {R : Type} (n : Int) (k : ByteArray → Option R), Option R) (G_spec_l21Name : ∀ {R : Type} (s : ByteArray) (k : Bool → Option R), Option R) {R : Type} (args : List AV) (H : Hp E) (K : AV → Hp E → Option R) : Option R :=
  match args, H with
  | [(Go.Eng.AV.sc (Go.Eng.SV.str s))], [] => G_spec_l21Bytes s (fun n3 => K (Go.Eng.AV.sc (Go.Eng.SV.int Go.IntKind.i64 n3)) [])
  | _, _ => none
def pa_spec_l21Table__o_spec_PutWord (N : Nat) (G_spec_l01Mod : ∀ {R : Type} (n : Int) (n1 : Int) (k : Int → Option R), Option R) (G_spec_l21Bytes : ∀ {R : Type} (s : ByteArray) (k : Int → Option R), Option R) (G_spec_PutWord : ∀ {R : Type} (n : Int) (k : ByteArray → Option R), Option R) (G_spec_l21Name : ∀ {R : Type} (s : ByteArray) (k : Bool → Option R), Option R) {R : Type} (args : List AV) (H : Hp E) (K : AV → Hp E → Option R) : Option R :=
  match args, H with
  | [(Go.Eng.AV.sc (Go.Eng.SV.int Go.IntKind.i64 n))], [] => G_spec_PutWord n (fun s => K (Go.Eng.AV.sc (Go.Eng.SV.str s)) [])
  | _, _ => none
def pa_spec_l21Table__o_spec_l21Name (N : Nat) (G_spec_l01Mod : ∀ {R : Type} (n : Int) (n1 : Int) (k : Int → Option R), Option R) (G_spec_l21Bytes : ∀ {R : Type} (s : ByteArray) (k : Int → Option R), Option R) (G_spec_PutWord : ∀ {R : Type} (n : Int) (k : ByteArray → Option R), Option R) (G_spec_l21Name : ∀ {R : Type} (s : ByteArray) (k : Bool → Option R), Option R) {R : Type} (args : List AV) (H : Hp E) (K : AV → Hp E → Option R) : Option R :=
  match args, H with
  | [(Go.Eng.AV.sc (Go.Eng.SV.str s))], [] => G_spec_l21Name s (fun b => K (Go.Eng.AV.sc (Go.Eng.SV.bool b)) [])
  | _, _ => none
noncomputable def OA_spec_l21Table (N : Nat) (G_spec_l01Mod : ∀ {R : Type} (n : Int) (n1 : Int) (k : Int → Option R), Option R) (G_spec_l21Bytes : ∀ {R : Type} (s : ByteArray) (k : Int → Option R), Option R) (G_spec_PutWord : ∀ {R : Type} (n : Int) (k : ByteArray → Option R), Option R) (G_spec_l21Name : ∀ {R : Type} (s : ByteArray) (k : Bool → Option R), Option R) : Orc E := addFn 158 (pa_spec_l21Table__o_spec_l01Mod N G_spec_l01Mod G_spec_l21Bytes G_spec_PutWord G_spec_l21Name) (addFn 160 (pa_spec_l21Table__o_spec_l21Bytes N G_spec_l01Mod G_spec_l21Bytes G_spec_PutWord G_spec_l21Name) (addFn 109 (pa_spec_l21Table__o_spec_PutWord N G_spec_l01Mod G_spec_l21Bytes G_spec_PutWord G_spec_l21Name) (addFn 159 (pa_spec_l21Table__o_spec_l21Name N G_spec_l01Mod G_spec_l21Bytes G_spec_PutWord G_spec_l21Name) (noFn))))
theorem O_spec_l21Table_ok (N : Nat) : OrcOk (O_spec_l21Table N) := addFn_ok (o_spec_l01Mod_ok N) (addFn_ok (o_spec_l21Bytes_ok N) (addFn_ok (o_spec_PutWord_ok N) (addFn_ok (o_spec_l21Name_ok N) (noFn_ok))))
def g_spec_l21Table (N : Nat) {R : Type} (s : ByteArray) (n : Int) (s1 : ByteArray) (k : ByteArray → Option R) : Option R :=
  (oK (g_spec_l21Name N s fun b =>
    (cond (!b)
    (some Bool.true)
    (cond (decide ((n < (0 : Int))))
      (some Bool.true)
      (cond (decide ((n > (255 : Int))))
        (some Bool.true)
        (cond (decide (((((ByteArray.size s1) : Nat) : Int) > (200 : Int))))
          (some Bool.true)
          (some ((Int.tmod (((ByteArray.size s1) : Nat) : Int) (4 : Int)) != (0 : Int)))))))) fun j =>
  (cond j
  (k (ByteArray.mk (List.toArray [])))
  (g_spec_PutWord N (Go.IntKind.wrap Go.IntKind.i64 ((Go.IntKind.wrap Go.IntKind.i64 ((Go.IntKind.wrap Go.IntKind.i64 ((((ByteArray.size s1) : Nat) : Int) + (8 : Int))) * (65536 : Int))) + (Go.IntKind.wrap Go.IntKind.i64 (n * (256 : Int))))) fun s2 =>
    (cond (Nat.ble ((ByteArray.size s) + (ByteArray.size s2)) 9223372036854775807)
    (cond (Nat.ble ((ByteArray.size (s ++ s2)) + (ByteArray.size s1)) 9223372036854775807)
      (g_spec_l21Bytes N ((s ++ s2) ++ s1) fun n1 =>
        (g_spec_l01Mod N (Go.IntKind.wrap Go.IntKind.i64 ((0 : Int) - n1)) (256 : Int) fun n2 =>
        (g_spec_PutWord N (Go.IntKind.wrap Go.IntKind.i64 ((Go.IntKind.wrap Go.IntKind.i64 ((Go.IntKind.wrap Go.IntKind.i64 ((Go.IntKind.wrap Go.IntKind.i64 ((((ByteArray.size s1) : Nat) : Int) + (8 : Int))) * (65536 : Int))) + (Go.IntKind.wrap Go.IntKind.i64 (n * (256 : Int))))) + n2)) fun s3 =>
        (cond (Nat.ble ((ByteArray.size s) + (ByteArray.size s3)) 9223372036854775807)
        (cond (Nat.ble ((ByteArray.size (s ++ s3)) + (ByteArray.size s1)) 9223372036854775807)
          (k ((s ++ s3) ++ s1))
          none)
        none))))
      none)
    none))))
def ga_g_spec_l21Table (N : Nat) (G_spec_l01Mod : ∀ {R : Type} (n : Int) (n1 : Int) (k : Int → Option R), Option R) (G_spec_l21Bytes : ∀ {R : Type} (s : ByteArray) (k : Int → Option R), Option R) (G_spec_PutWord : ∀ {R : Type} (n : Int) (k : ByteArray → Option R), Option R) (G_spec_l21Name : ∀ {R : Type} (s : ByteArray) (k : Bool → Option R), Option R) {R : Type} (s : ByteArray) (n : Int) (s1 : ByteArray) (k : ByteArray → Option R) : Option R :=
  (oK (G_spec_l21Name s fun b =>
    (cond (!b)
    (some Bool.true)
    (cond (decide ((n < (0 : Int))))
      (some Bool.true)
      (cond (decide ((n > (255 : Int))))
        (some Bool.true)
        (cond (decide (((((ByteArray.size s1) : Nat) : Int) > (200 : Int))))
          (some Bool.true)
          (some ((Int.tmod (((ByteArray.size s1) : Nat) : Int) (4 : Int)) != (0 : Int)))))))) fun j =>
  (cond j
  (k (ByteArray.mk (List.toArray [])))
  (G_spec_PutWord (Go.IntKind.wrap Go.IntKind.i64 ((Go.IntKind.wrap Go.IntKind.i64 ((Go.IntKind.wrap Go.IntKind.i64 ((((ByteArray.size s1) : Nat) : Int) + (8 : Int))) * (65536 : Int))) + (Go.IntKind.wrap Go.IntKind.i64 (n * (256 : Int))))) fun s2 =>
    (cond (Nat.ble ((ByteArray.size s) + (ByteArray.size s2)) 9223372036854775807)
    (cond (Nat.ble ((ByteArray.size (s ++ s2)) + (ByteArray.size s1)) 9223372036854775807)
      (G_spec_l21Bytes ((s ++ s2) ++ s1) fun n1 =>
        (G_spec_l01Mod (Go.IntKind.wrap Go.IntKind.i64 ((0 : Int) - n1)) (256 : Int) fun n2 =>
        (G_spec_PutWord (Go.IntKind.wrap Go.IntKind.i64 ((Go.IntKind.wrap Go.IntKind.i64 ((Go.IntKind.wrap Go.IntKind.i64 ((Go.IntKind.wrap Go.IntKind.i64 ((((ByteArray.size s1) : Nat) : Int) + (8 : Int))) * (65536 : Int))) + (Go.IntKind.wrap Go.IntKind.i64 (n * (256 : Int))))) + n2)) fun s3 =>
        (cond (Nat.ble ((ByteArray.size s) + (ByteArray.size s3)) 9223372036854775807)
        (cond (Nat.ble ((ByteArray.size (s ++ s3)) + (ByteArray.size s1)) 9223372036854775807)
          (k ((s ++ s3) ++ s1))
          none)
        none))))
      none)
    none))))
theorem ea_e_spec_l21Table (N : Nat) (G_spec_l01Mod : ∀ {R : Type} (n : Int) (n1 : Int) (k : Int → Option R), Option R) (G_spec_l21Bytes : ∀ {R : Type} (s : ByteArray) (k : Int → Option R), Option R) (G_spec_PutWord : ∀ {R : Type} (n : Int) (k : ByteArray → Option R), Option R) (G_spec_l21Name : ∀ {R : Type} (s : ByteArray) (k : Bool → Option R), Option R) {R : Type} (s : ByteArray) (n : Int) (s1 : ByteArray) (K : AV → Hp E → Option R) :
    runFnI (E := E) (OA_spec_l21Table N G_spec_l01Mod G_spec_l21Bytes G_spec_PutWord G_spec_l21Name) (noIt) sl_spec_l21Table J_spec_l21Table Go.Proofs.Try.f110 [(Go.Eng.AV.agg [(Go.Eng.SV.str s), (Go.Eng.SV.int Go.IntKind.i64 n), (Go.Eng.SV.str s1)])] [] K =
      ga_g_spec_l21Table N G_spec_l01Mod G_spec_l21Bytes G_spec_PutWord G_spec_l21Name s n s1 (fun s4 => K (Go.Eng.AV.sc (Go.Eng.SV.str s4)) []) := by kernel_rfl
theorem e_spec_l21Table (N : Nat) {R : Type} (s : ByteArray) (n : Int) (s1 : ByteArray) (K : AV → Hp E → Option R) :
    runFnI (E := E) (O_spec_l21Table N) (noIt) sl_spec_l21Table J_spec_l21Table Go.Proofs.Try.f110 [(Go.Eng.AV.agg [(Go.Eng.SV.str s), (Go.Eng.SV.int Go.IntKind.i64 n), (Go.Eng.SV.str s1)])] [] K =
      g_spec_l21Table N s n s1 (fun s4 => K (Go.Eng.AV.sc (Go.Eng.SV.str s4)) []) := castPr (by kernel_rfl) (ea_e_spec_l21Table N (g_spec_l01Mod N) (g_spec_l21Bytes N) (g_spec_PutWord N) (g_spec_l21Name N) s n s1 K)
def o_spec_l21Table (N : Nat) {R : Type} (args : List AV) (H : Hp E) (K : AV → Hp E → Option R) : Option R :=
  match args, H with
  | [(Go.Eng.AV.agg [(Go.Eng.SV.str s), (Go.Eng.SV.int Go.IntKind.i64 n), (Go.Eng.SV.str s1)])], [] => g_spec_l21Table N s n s1 (fun s4 => K (Go.Eng.AV.sc (Go.Eng.SV.str s4)) [])
  | _, _ => none
theorem o_spec_l21Table_ok (N : Nat) : FnOk E 110 (o_spec_l21Table N) := by
  intro R args H K r h
  unfold o_spec_l21Table at h
  dsimp only at h
  split at h
  · exact fnB_ok (ids := []) (top := []) ok (O_spec_l21Table_ok N) (jn_ok _ _ _) Go.Proofs.Try.func110 (by kernel_rfl) (IT := noIt) (sl := sl_spec_l21Table) (J := J_spec_l21Table) (K := K) (H := []) (noIt_ok) (by kernel_rfl) rfl ((e_spec_l21Table N _ _ _ K).trans h)
  · cases h
/-! ### loop.example/g00038/spec.l01Word -/
abbrev sl_spec_l01Word : SlotT := []
abbrev J_spec_l01Word : JT := jn [] [] []
noncomputable def O_spec_l01Word (N : Nat) : Orc E := noFn
theorem O_spec_l01Word_ok (N : Nat) : OrcOk (O_spec_l01Word N) := noFn_ok
def g_spec_l01Word (N : Nat) {R : Type} (s : ByteArray) (n : Int) (k : Int → Option R) : Option R :=
  (cond ((decide (((0 : Int) ≤ n))) && (decide ((n < (((ByteArray.size s) : Nat) : Int)))))
  (cond ((decide (((0 : Int) ≤ (Go.IntKind.wrap Go.IntKind.i64 (n + (1 : Int)))))) && (decide (((Go.IntKind.wrap Go.IntKind.i64 (n + (1 : Int))) < (((ByteArray.size s) : Nat) : Int)))))
    (cond ((decide (((0 : Int) ≤ (Go.IntKind.wrap Go.IntKind.i64 (n + (2 : Int)))))) && (decide (((Go.IntKind.wrap Go.IntKind.i64 (n + (2 : Int))) < (((ByteArray.size s) : Nat) : Int)))))
      (cond ((decide (((0 : Int) ≤ (Go.IntKind.wrap Go.IntKind.i64 (n + (3 : Int)))))) && (decide (((Go.IntKind.wrap Go.IntKind.i64 (n + (3 : Int))) < (((ByteArray.size s) : Nat) : Int)))))
        (k (Go.IntKind.wrap Go.IntKind.i64 ((Go.IntKind.wrap Go.IntKind.i64 ((Go.IntKind.wrap Go.IntKind.i64 ((Go.IntKind.wrap Go.IntKind.i64 (Go.Eng.bt s (Int.toNat n))) + (Go.IntKind.wrap Go.IntKind.i64 ((Go.IntKind.wrap Go.IntKind.i64 (Go.Eng.bt s (Int.toNat (Go.IntKind.wrap Go.IntKind.i64 (n + (1 : Int)))))) * (256 : Int))))) + (Go.IntKind.wrap Go.IntKind.i64 ((Go.IntKind.wrap Go.IntKind.i64 (Go.Eng.bt s (Int.toNat (Go.IntKind.wrap Go.IntKind.i64 (n + (2 : Int)))))) * (65536 : Int))))) + (Go.IntKind.wrap Go.IntKind.i64 ((Go.IntKind.wrap Go.IntKind.i64 (Go.Eng.bt s (Int.toNat (Go.IntKind.wrap Go.IntKind.i64 (n + (3 : Int)))))) * (16777216 : Int))))))
        none)
      none)
    none)
  none)
theorem e_spec_l01Word (N : Nat) {R : Type} (s : ByteArray) (n : Int) (K : AV → Hp E → Option R) :
    runFnI (E := E) (O_spec_l01Word N) (noIt) sl_spec_l01Word J_spec_l01Word Go.Proofs.Try.f79 [(Go.Eng.AV.sc (Go.Eng.SV.str s)), (Go.Eng.AV.sc (Go.Eng.SV.int Go.IntKind.i64 n))] [] K =
      g_spec_l01Word N s n (fun n1 => K (Go.Eng.AV.sc (Go.Eng.SV.int Go.IntKind.i64 n1)) []) := by kernel_rfl
def o_spec_l01Word (N : Nat) {R : Type} (args : List AV) (H : Hp E) (K : AV → Hp E → Option R) : Option R :=
  match args, H with
  | [(Go.Eng.AV.sc (Go.Eng.SV.str s)), (Go.Eng.AV.sc (Go.Eng.SV.int Go.IntKind.i64 n))], [] => g_spec_l01Word N s n (fun n1 => K (Go.Eng.AV.sc (Go.Eng.SV.int Go.IntKind.i64 n1)) [])
  | _, _ => none
theorem o_spec_l01Word_ok (N : Nat) : FnOk E 79 (o_spec_l01Word N) := by
  intro R args H K r h
  unfold o_spec_l01Word at h
  dsimp only at h
  split at h
  · exact fnB_ok (ids := []) (top := []) ok (O_spec_l01Word_ok N) (jn_ok _ _ _) Go.Proofs.Try.func79 (by kernel_rfl) (IT := noIt) (sl := sl_spec_l01Word) (J := J_spec_l01Word) (K := K) (H := []) (noIt_ok) (by kernel_rfl) rfl ((e_spec_l01Word N _ _ K).trans h)
  · cases h
/-! ### loop.example/g00038/spec.l21Words -/
abbrev sl_spec_l21Words : SlotT := [(0, ([0, 3, 4], [3]))]
abbrev J_spec_l21Words : JT := jn [] [] []
noncomputable def O_spec_l21Words (N : Nat) : Orc E := addFn 79 (o_spec_l01Word N) (noFn)
theorem O_spec_l21Words_ok (N : Nat) : OrcOk (O_spec_l21Words N) := addFn_ok (o_spec_l01Word_ok N) (noFn_ok)
def s_spec_l21Words_0 (N : Nat) {R : Type} (s1 : ByteArray) (n : Int) (n1 : Int) (ag : Int → Int → Option R)  (kN : Int → Option R) : Option R :=
  (cond (decide (((Go.IntKind.wrap Go.IntKind.i64 (n1 + (4 : Int))) ≤ (((ByteArray.size s1) : Nat) : Int))))
  (g_spec_l01Word N s1 n1 fun n2 =>
    (ag (Go.IntKind.wrap Go.IntKind.i64 (n + n2)) (Go.IntKind.wrap Go.IntKind.i64 (n1 + (4 : Int)))))
  (kN n))
def l_spec_l21Words_0 (N : Nat) {R : Type} (s1 : ByteArray) (kN : Int → Option R) : Nat → Int → Int → Option R
  | 0, _, _ => none
  | f + 1, n, n1 => s_spec_l21Words_0 N s1 n n1 (fun n n1 => l_spec_l21Words_0 N s1 kN f n n1)  kN
def c_spec_l21Words_0 (N : Nat) {R : Type} (s1 : ByteArray) (n : Int) (n1 : Int) (kN : Int → Option R) : Option R := l_spec_l21Words_0 N s1 kN N n n1
theorem se_spec_l21Words_0 (N : Nat) {R : Type} (s1 : ByteArray) (n : Int) (n1 : Int) (AG : List (Option AV) → Hp E → Option R) (KL : Ex → List (Option AV) → Hp E → Option R) :
    iterStep (E := E) (O_spec_l21Words N) (fun {R} => LI (noIt) 0 18 sl_spec_l21Words (R := R)) J_spec_l21Words 0 18 0 [0, 3, 4] [3] (body Go.Proofs.Try.f94 0) AG KL [(Option.some (Go.Eng.AV.sc (Go.Eng.SV.str s1))), (Option.some (Go.Eng.AV.sc (Go.Eng.SV.int Go.IntKind.i64 n))), (Option.some (Go.Eng.AV.sc (Go.Eng.SV.int Go.IntKind.i64 n1)))] [] =
      s_spec_l21Words_0 N s1 n n1 (fun n n1 => AG [(Option.some (Go.Eng.AV.sc (Go.Eng.SV.str s1))), (Option.some (Go.Eng.AV.sc (Go.Eng.SV.int Go.IntKind.i64 n))), (Option.some (Go.Eng.AV.sc (Go.Eng.SV.int Go.IntKind.i64 n1)))] [])  (fun n5 => KL Go.Eng.Ex.normal [(Option.some (Go.Eng.AV.sc (Go.Eng.SV.int Go.IntKind.i64 n5)))] []) := by kernel_rfl
theorem le_spec_l21Words_0 (N : Nat) {R : Type} (s1 : ByteArray) (KL : Ex → List (Option AV) → Hp E → Option R) : ∀ (f : Nat), ∀ (n : Int) (n1 : Int), iterK (E := E) (O_spec_l21Words N) (fun {R} => LI (noIt) 0 18 sl_spec_l21Words (R := R)) J_spec_l21Words 0 18 0 [0, 3, 4] [3] (body Go.Proofs.Try.f94 0) f [(Option.some (Go.Eng.AV.sc (Go.Eng.SV.str s1))), (Option.some (Go.Eng.AV.sc (Go.Eng.SV.int Go.IntKind.i64 n))), (Option.some (Go.Eng.AV.sc (Go.Eng.SV.int Go.IntKind.i64 n1)))] [] KL = l_spec_l21Words_0 N s1 (fun n5 => KL Go.Eng.Ex.normal [(Option.some (Go.Eng.AV.sc (Go.Eng.SV.int Go.IntKind.i64 n5)))] []) f n n1 := by
  intro f
  induction f with
  | zero => intros; rfl
  | succ f ih =>
    intro n n1
    rw [iterK_succ, se_spec_l21Words_0]
    exact (congrArg (fun z0 => s_spec_l21Words_0 N s1 n n1 z0 (fun n5 => KL Go.Eng.Ex.normal [(Option.some (Go.Eng.AV.sc (Go.Eng.SV.int Go.IntKind.i64 n5)))] [])) (funext fun n => funext fun n1 => ih n n1))
def i_spec_l21Words_0 (N : Nat) {R : Type} (vs : List (Option AV)) (H : Hp E) (KL : Ex → List (Option AV) → Hp E → Option R) : Option R :=
  match vs, H with
  | [(Option.some (Go.Eng.AV.sc (Go.Eng.SV.str s1))), (Option.some (Go.Eng.AV.sc (Go.Eng.SV.int Go.IntKind.i64 n))), (Option.some (Go.Eng.AV.sc (Go.Eng.SV.int Go.IntKind.i64 n1)))], [] => c_spec_l21Words_0 N s1 n n1 (fun n6 => KL Go.Eng.Ex.normal [(Option.some (Go.Eng.AV.sc (Go.Eng.SV.int Go.IntKind.i64 n6)))] [])
  | _, _ => none
noncomputable def IT_spec_l21Words_0 (N : Nat) : Its E := addIt 0 (i_spec_l21Words_0 N) (noIt)
theorem IT_spec_l21Words_0_ok (N : Nat) : ItOk (IT_spec_l21Words_0 N) 0 18 sl_spec_l21Words (lsB Go.Proofs.Try.f94 [0]) :=
  addItB_ok (inner := []) ok (O_spec_l21Words_ok N) (jn_ok _ _ _) (noIt_ok) rfl (by kernel_rfl) rfl fun vs H KL r h => by
    unfold i_spec_l21Words_0 at h
    split at h
    · exact ⟨_, (le_spec_l21Words_0 N _ KL N _ _).trans h⟩
    · cases h
def g_spec_l21Words (N : Nat) {R : Type} (s : ByteArray) (k : Int → Option R) : Option R :=
  (c_spec_l21Words_0 N s (0 : Int) (0 : Int) fun n3 =>
  (k n3))
theorem e_spec_l21Words (N : Nat) {R : Type} (s : ByteArray) (K : AV → Hp E → Option R) :
    runFnI (E := E) (O_spec_l21Words N) (IT_spec_l21Words_0 N) sl_spec_l21Words J_spec_l21Words Go.Proofs.Try.f94 [(Go.Eng.AV.sc (Go.Eng.SV.str s))] [] K =
      g_spec_l21Words N s (fun n4 => K (Go.Eng.AV.sc (Go.Eng.SV.int Go.IntKind.i64 n4)) []) := by kernel_rfl
def o_spec_l21Words (N : Nat) {R : Type} (args : List AV) (H : Hp E) (K : AV → Hp E → Option R) : Option R :=
  match args, H with
  | [(Go.Eng.AV.sc (Go.Eng.SV.str s))], [] => g_spec_l21Words N s (fun n4 => K (Go.Eng.AV.sc (Go.Eng.SV.int Go.IntKind.i64 n4)) [])
  | _, _ => none
theorem o_spec_l21Words_ok (N : Nat) : FnOk E 94 (o_spec_l21Words N) := by
  intro R args H K r h
  unfold o_spec_l21Words at h
  dsimp only at h
  split at h
  · exact fnB_ok (ids := [0]) (top := [0]) ok (O_spec_l21Words_ok N) (jn_ok _ _ _) Go.Proofs.Try.func94 (by kernel_rfl) (IT := IT_spec_l21Words_0 N) (sl := sl_spec_l21Words) (J := J_spec_l21Words) (K := K) (H := []) (IT_spec_l21Words_0_ok N) (by kernel_rfl) rfl ((e_spec_l21Words N _ K).trans h)
  · cases h
/-! ### loop.example/g00038/spec.l10In -/
abbrev sl_spec_l10In : SlotT := []
abbrev J_spec_l10In : JT := jn [(1, [(6, .b)])] [] []
noncomputable def O_spec_l10In (N : Nat) : Orc E := noFn
theorem O_spec_l10In_ok (N : Nat) : OrcOk (O_spec_l10In N) := noFn_ok
def g_spec_l10In (N : Nat) {R : Type} (s : ByteArray) (n : Int) (n1 : Int) (k : Bool → Option R) : Option R :=
  (oK (cond (decide ((n ≥ (0 : Int))))
    (cond (decide ((n1 ≥ (0 : Int))))
      (cond (decide ((n ≤ (((ByteArray.size s) : Nat) : Int))))
        (some (decide ((n1 ≤ (Go.IntKind.wrap Go.IntKind.i64 ((((ByteArray.size s) : Nat) : Int) - n))))))
        (some Bool.false))
      (some Bool.false))
    (some Bool.false)) fun j =>
  (k j))
theorem e_spec_l10In (N : Nat) {R : Type} (s : ByteArray) (n : Int) (n1 : Int) (K : AV → Hp E → Option R) :
    runFnI (E := E) (O_spec_l10In N) (noIt) sl_spec_l10In J_spec_l10In Go.Proofs.Try.f92 [(Go.Eng.AV.sc (Go.Eng.SV.str s)), (Go.Eng.AV.sc (Go.Eng.SV.int Go.IntKind.i64 n)), (Go.Eng.AV.sc (Go.Eng.SV.int Go.IntKind.i64 n1))] [] K =
      g_spec_l10In N s n n1 (fun b => K (Go.Eng.AV.sc (Go.Eng.SV.bool b)) []) := by kernel_rfl
def o_spec_l10In (N : Nat) {R : Type} (args : List AV) (H : Hp E) (K : AV → Hp E → Option R) : Option R :=
  match args, H with
  | [(Go.Eng.AV.sc (Go.Eng.SV.str s)), (Go.Eng.AV.sc (Go.Eng.SV.int Go.IntKind.i64 n)), (Go.Eng.AV.sc (Go.Eng.SV.int Go.IntKind.i64 n1))], [] => g_spec_l10In N s n n1 (fun b => K (Go.Eng.AV.sc (Go.Eng.SV.bool b)) [])
  | _, _ => none
theorem o_spec_l10In_ok (N : Nat) : FnOk E 92 (o_spec_l10In N) := by
  intro R args H K r h
  unfold o_spec_l10In at h
  dsimp only at h
  split at h
  · exact fnB_ok (ids := []) (top := []) ok (O_spec_l10In_ok N) (jn_ok _ _ _) Go.Proofs.Try.func92 (by kernel_rfl) (IT := noIt) (sl := sl_spec_l10In) (J := J_spec_l10In) (K := K) (H := []) (noIt_ok) (by kernel_rfl) rfl ((e_spec_l10In N _ _ _ K).trans h)
  · cases h
end Go.Sa
