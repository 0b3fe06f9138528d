import Derived.Test.YtnopbegjbbbdhaaSpec
import Derived.Test.YtnopbegjbbbdhaaPLb
import Derived.Test.YtnopbegjbbbdhaaW1
set_option linter.all false
namespace Go.Sa
open Go Go.Eng Go.Proofs
set_option maxRecDepth 100000
/-! ### (*loop.example/g00038/spec.l01Src).firmTables -/
abbrev sl_spec_l01Src_firmTables_Wr : SlotT := [(0, ([0, 3, 4], [0, 3])), (2, ([3, 6], [3]))]
abbrev J_spec_l01Src_firmTables_Wr : JT := jn [] [] [(5, [2, 6, 9, 11])]
noncomputable def O_spec_l01Src_firmTables_Wr (N : Nat) : Orc E := addFn 80 (o_spec_TablesOf_w N) (addFn 143 (o_spec_l01Src_zeros_Wr N) (addFn 129 (o_spec_l01Src_one_Wr N) (addFn 162 (o_spec_l01Src_bytes_Wr N) (addFn 103 (o_spec_l01Src_n_Wr N) (noFn)))))
def pa_spec_l01Src_firmTables_Wr__o_spec_TablesOf_w (N : Nat) (G_spec_TablesOf_w : ∀ {R : Type} (n : Int) (n1 : Int) (b : Bool) (l : List Go.Sa.Device) (k : (List Go.Sa.FirmTable) → Option R), Option R) (G_spec_l01Src_zeros_Wr : ∀ {R : Type} (n : Int) (b : Bool) (n1 : Int) (n2 : Int) (n3 : Int) (l : List Int) (k : ByteArray → Option R), Option R) (G_spec_l01Src_one_Wr : ∀ {R : Type} (n : Int) (b : Bool) (n1 : Int) (n2 : Int) (n3 : Int) (l : List Int) (k : Bool → Int → Int → Option R), Option R) (G_spec_l01Src_bytes_Wr : ∀ {R : Type} (n : Int) (b : Bool) (n1 : Int) (n2 : Int) (n3 : Int) (l : List Int) (k : ByteArray → Int → Int → Option R), Option R) (G_spec_l01Src_n_Wr : ∀ {R : Type} (n : Int) (b : Bool) (n1 : Int) (n2 : Int) (n3 : Int) (l : List Int) (k : Int → Int → Int → Option R), Option R) {R : Type} (args : List AV) (H : Hp E) (K : AV → Hp E → Option R) : Option R :=
  match args, H with
  | [(Go.Eng.AV.agg [(Go.Eng.SV.int Go.IntKind.i64 n), (Go.Eng.SV.int Go.IntKind.i64 n1), (Go.Eng.SV.slc 0 Option.none b)])], [(Option.some (Go.Eng.HE.mk Bool.false (Go.Eng.HB.rows (Go.Sa.B.iDevice l))))] => G_spec_TablesOf_w n n1 b l (fun l2 => K (Go.Eng.AV.sc (Go.Eng.SV.slc 1 Option.none Bool.false)) [(Option.some (Go.Eng.HE.mk Bool.false (Go.Eng.HB.rows (Go.Sa.B.iDevice l)))), (Option.some (Go.Eng.HE.mk Bool.false (Go.Eng.HB.rows (Go.Sa.B.iFirmTable l2))))])
  | _, _ => none
def pa_spec_l01Src_firmTables_Wr__o_spec_l01Src_zeros_Wr (N : Nat) (G_spec_TablesOf_w : ∀ {R : Type} (n : Int) (n1 : Int) (b : Bool) (l : List Go.Sa.Device) (k : (List Go.Sa.FirmTable) → Option R), Option R) (G_spec_l01Src_zeros_Wr : ∀ {R : Type} (n : Int) (b : Bool) (n1 : Int) (n2 : Int) (n3 : Int) (l : List Int) (k : ByteArray → Option R), Option R) (G_spec_l01Src_one_Wr : ∀ {R : Type} (n : Int) (b : Bool) (n1 : Int) (n2 : Int) (n3 : Int) (l : List Int) (k : Bool → Int → Int → Option R), Option R) (G_spec_l01Src_bytes_Wr : ∀ {R : Type} (n : Int) (b : Bool) (n1 : Int) (n2 : Int) (n3 : Int) (l : List Int) (k : ByteArray → Int → Int → Option R), Option R) (G_spec_l01Src_n_Wr : ∀ {R : Type} (n : Int) (b : Bool) (n1 : Int) (n2 : Int) (n3 : Int) (l : List Int) (k : Int → Int → Int → Option R), Option R) {R : Type} (args : List AV) (H : Hp E) (K : AV → Hp E → Option R) : Option R :=
  match args, H with
  | [(Go.Eng.AV.sc (Go.Eng.SV.ptr 0 0 0)), (Go.Eng.AV.sc (Go.Eng.SV.int Go.IntKind.i64 n))], [(Option.some (Go.Eng.HE.mk Bool.false (Go.Eng.HB.exp Option.none [(Go.Eng.SV.slc 1 Option.none b), (Go.Eng.SV.int Go.IntKind.i64 n1), (Go.Eng.SV.int Go.IntKind.u64 n2), (Go.Eng.SV.int Go.IntKind.i64 n3)]))), (Option.some (Go.Eng.HE.mk Bool.true (Go.Eng.HB.rows (Go.Sa.B.u8 l))))] => G_spec_l01Src_zeros_Wr n b n1 n2 n3 l (fun s => K (Go.Eng.AV.sc (Go.Eng.SV.str s)) [(Option.some (Go.Eng.HE.mk Bool.false (Go.Eng.HB.exp Option.none [(Go.Eng.SV.slc 1 Option.none b), (Go.Eng.SV.int Go.IntKind.i64 n1), (Go.Eng.SV.int Go.IntKind.u64 n2), (Go.Eng.SV.int Go.IntKind.i64 n3)]))), (Option.some (Go.Eng.HE.mk Bool.true (Go.Eng.HB.rows (Go.Sa.B.u8 l))))])
  | _, _ => none
def pa_spec_l01Src_firmTables_Wr__o_spec_l01Src_one_Wr (N : Nat) (G_spec_TablesOf_w : ∀ {R : Type} (n : Int) (n1 : Int) (b : Bool) (l : List Go.Sa.Device) (k : (List Go.Sa.FirmTable) → Option R), Option R) (G_spec_l01Src_zeros_Wr : ∀ {R : Type} (n : Int) (b : Bool) (n1 : Int) (n2 : Int) (n3 : Int) (l : List Int) (k : ByteArray → Option R), Option R) (G_spec_l01Src_one_Wr : ∀ {R : Type} (n : Int) (b : Bool) (n1 : Int) (n2 : Int) (n3 : Int) (l : List Int) (k : Bool → Int → Int → Option R), Option R) (G_spec_l01Src_bytes_Wr : ∀ {R : Type} (n : Int) (b : Bool) (n1 : Int) (n2 : Int) (n3 : Int) (l : List Int) (k : ByteArray → Int → Int → Option R), Option R) (G_spec_l01Src_n_Wr : ∀ {R : Type} (n : Int) (b : Bool) (n1 : Int) (n2 : Int) (n3 : Int) (l : List Int) (k : Int → Int → Int → Option R), Option R) {R : Type} (args : List AV) (H : Hp E) (K : AV → Hp E → Option R) : Option R :=
  match args, H with
  | [(Go.Eng.AV.sc (Go.Eng.SV.ptr 0 0 0)), (Go.Eng.AV.sc (Go.Eng.SV.int Go.IntKind.i64 n))], [(Option.some (Go.Eng.HE.mk Bool.false (Go.Eng.HB.exp Option.none [(Go.Eng.SV.slc 1 Option.none b), (Go.Eng.SV.int Go.IntKind.i64 n1), (Go.Eng.SV.int Go.IntKind.u64 n2), (Go.Eng.SV.int Go.IntKind.i64 n3)]))), (Option.some (Go.Eng.HE.mk Bool.true (Go.Eng.HB.rows (Go.Sa.B.u8 l))))] => G_spec_l01Src_one_Wr n b n1 n2 n3 l (fun b1 n7 n8 => K (Go.Eng.AV.sc (Go.Eng.SV.bool b1)) [(Option.some (Go.Eng.HE.mk Bool.false (Go.Eng.HB.exp Option.none [(Go.Eng.SV.slc 1 Option.none b), (Go.Eng.SV.int Go.IntKind.i64 n7), (Go.Eng.SV.int Go.IntKind.u64 n8), (Go.Eng.SV.int Go.IntKind.i64 n3)]))), (Option.some (Go.Eng.HE.mk Bool.true (Go.Eng.HB.rows (Go.Sa.B.u8 l))))])
  | _, _ => none
def pa_spec_l01Src_firmTables_Wr__o_spec_l01Src_bytes_Wr (N : Nat) (G_spec_TablesOf_w : ∀ {R : Type} (n : Int) (n1 : Int) (b : Bool) (l : List Go.Sa.Device) (k : (List Go.Sa.FirmTable) → Option R), Option R) (G_spec_l01Src_zeros_Wr : ∀ {R : Type} (n : Int) (b : Bool) (n1 : Int) (n2 : Int) (n3 : Int) (l : List Int) (k : ByteArray → Option R), Option R) (G_spec_l01Src_one_Wr : ∀ {R : Type} (n : Int) (b : Bool) (n1 : Int) (n2 : Int) (n3 : Int) (l : List Int) (k : Bool → Int → Int → Option R), Option R) (G_spec_l01Src_bytes_Wr : ∀ {R : Type} (n : Int) (b : Bool) (n1 : Int) (n2 : Int) (n3 : Int) (l : List Int) (k : ByteArray → Int → Int → Option R), Option R) (G_spec_l01Src_n_Wr : ∀ {R : Type} (n : Int) (b : Bool) (n1 : Int) (n2 : Int) (n3 : Int) (l : List Int) (k : Int → Int → Int → Option R), Option R) {R : Type} (args : List AV) (H : Hp E) (K : AV → Hp E → Option R) : Option R :=
  match args, H with
  | [(Go.Eng.AV.sc (Go.Eng.SV.ptr 0 0 0)), (Go.Eng.AV.sc (Go.Eng.SV.int Go.IntKind.i64 n))], [(Option.some (Go.Eng.HE.mk Bool.false (Go.Eng.HB.exp Option.none [(Go.Eng.SV.slc 1 Option.none b), (Go.Eng.SV.int Go.IntKind.i64 n1), (Go.Eng.SV.int Go.IntKind.u64 n2), (Go.Eng.SV.int Go.IntKind.i64 n3)]))), (Option.some (Go.Eng.HE.mk Bool.true (Go.Eng.HB.rows (Go.Sa.B.u8 l))))] => G_spec_l01Src_bytes_Wr n b n1 n2 n3 l (fun s n14 n15 => K (Go.Eng.AV.sc (Go.Eng.SV.str s)) [(Option.some (Go.Eng.HE.mk Bool.false (Go.Eng.HB.exp Option.none [(Go.Eng.SV.slc 1 Option.none b), (Go.Eng.SV.int Go.IntKind.i64 n14), (Go.Eng.SV.int Go.IntKind.u64 n15), (Go.Eng.SV.int Go.IntKind.i64 n3)]))), (Option.some (Go.Eng.HE.mk Bool.true (Go.Eng.HB.rows (Go.Sa.B.u8 l))))])
  | _, _ => none
def pa_spec_l01Src_firmTables_Wr__o_spec_l01Src_n_Wr (N : Nat) (G_spec_TablesOf_w : ∀ {R : Type} (n : Int) (n1 : Int) (b : Bool) (l : List Go.Sa.Device) (k : (List Go.Sa.FirmTable) → Option R), Option R) (G_spec_l01Src_zeros_Wr : ∀ {R : Type} (n : Int) (b : Bool) (n1 : Int) (n2 : Int) (n3 : Int) (l : List Int) (k : ByteArray → Option R), Option R) (G_spec_l01Src_one_Wr : ∀ {R : Type} (n : Int) (b : Bool) (n1 : Int) (n2 : Int) (n3 : Int) (l : List Int) (k : Bool → Int → Int → Option R), Option R) (G_spec_l01Src_bytes_Wr : ∀ {R : Type} (n : Int) (b : Bool) (n1 : Int) (n2 : Int) (n3 : Int) (l : List Int) (k : ByteArray → Int → Int → Option R), Option R) (G_spec_l01Src_n_Wr : ∀ {R : Type} (n : Int) (b : Bool) (n1 : Int) (n2 : Int) (n3 : Int) (l : List Int) (k : Int → Int → Int → Option R), Option R) {R : Type} (args : List AV) (H : Hp E) (K : AV → Hp E → Option R) : Option R :=
  match args, H with
  | [(Go.Eng.AV.sc (Go.Eng.SV.ptr 0 0 0)), (Go.Eng.AV.sc (Go.Eng.SV.int Go.IntKind.i64 n))], [(Option.some (Go.Eng.HE.mk Bool.false (Go.Eng.HB.exp Option.none [(Go.Eng.SV.slc 1 Option.none b), (Go.Eng.SV.int Go.IntKind.i64 n1), (Go.Eng.SV.int Go.IntKind.u64 n2), (Go.Eng.SV.int Go.IntKind.i64 n3)]))), (Option.some (Go.Eng.HE.mk Bool.true (Go.Eng.HB.rows (Go.Sa.B.u8 l))))] => G_spec_l01Src_n_Wr n b n1 n2 n3 l (fun n4 n5 n6 => K (Go.Eng.AV.sc (Go.Eng.SV.int Go.IntKind.i64 n4)) [(Option.some (Go.Eng.HE.mk Bool.false (Go.Eng.HB.exp Option.none [(Go.Eng.SV.slc 1 Option.none b), (Go.Eng.SV.int Go.IntKind.i64 n5), (Go.Eng.SV.int Go.IntKind.u64 n6), (Go.Eng.SV.int Go.IntKind.i64 n3)]))), (Option.some (Go.Eng.HE.mk Bool.true (Go.Eng.HB.rows (Go.Sa.B.u8 l))))])
  | _, _ => none
noncomputable def OA_spec_l01Src_firmTables_Wr (N : Nat) (G_spec_TablesOf_w : ∀ {R : Type} (n : Int) (n1 : Int) (b : Bool) (l : List Go.Sa.Device) (k : (List Go.Sa.FirmTable) → Option R), Option R) (G_spec_l01Src_zeros_Wr : ∀ {R : Type} (n : Int) (b : Bool) (n1 : Int) (n2 : Int) (n3 : Int) (l : List Int) (k : ByteArray → Option R), Option R) (G_spec_l01Src_one_Wr : ∀ {R : Type} (n : Int) (b : Bool) (n1 : Int) (n2 : Int) (n3 : Int) (l : List Int) (k : Bool → Int → Int → Option R), Option R) (G_spec_l01Src_bytes_Wr : ∀ {R : Type} (n : Int) (b : Bool) (n1 : Int) (n2 : Int) (n3 : Int) (l : List Int) (k : ByteArray → Int → Int → Option R), Option R) (G_spec_l01Src_n_Wr : ∀ {R : Type} (n : Int) (b : Bool) (n1 : Int) (n2 : Int) (n3 : Int) (l : List Int) (k : Int → Int → Int → Option R), Option R) : Orc E := addFn 80 (pa_spec_l01Src_firmTables_Wr__o_spec_TablesOf_w N G_spec_TablesOf_w G_spec_l01Src_zeros_Wr G_spec_l01Src_one_Wr G_spec_l01Src_bytes_Wr G_spec_l01Src_n_Wr) (addFn 143 (pa_spec_l01Src_firmTables_Wr__o_spec_l01Src_zeros_Wr N G_spec_TablesOf_w G_spec_l01Src_zeros_Wr G_spec_l01Src_one_Wr G_spec_l01Src_bytes_Wr G_spec_l01Src_n_Wr) (addFn 129 (pa_spec_l01Src_firmTables_Wr__o_spec_l01Src_one_Wr N G_spec_TablesOf_w G_spec_l01Src_zeros_Wr G_spec_l01Src_one_Wr G_spec_l01Src_bytes_Wr G_spec_l01Src_n_Wr) (addFn 162 (pa_spec_l01Src_firmTables_Wr__o_spec_l01Src_bytes_Wr N G_spec_TablesOf_w G_spec_l01Src_zeros_Wr G_spec_l01Src_one_Wr G_spec_l01Src_bytes_Wr G_spec_l01Src_n_Wr) (addFn 103 (pa_spec_l01Src_firmTables_Wr__o_spec_l01Src_n_Wr N G_spec_TablesOf_w G_spec_l01Src_zeros_Wr G_spec_l01Src_one_Wr G_spec_l01Src_bytes_Wr G_spec_l01Src_n_Wr) (noFn)))))
theorem O_spec_l01Src_firmTables_Wr_ok (N : Nat) : OrcOk (O_spec_l01Src_firmTables_Wr N) := addFn_ok (o_spec_TablesOf_w_ok N) (addFn_ok (o_spec_l01Src_zeros_Wr_ok N) (addFn_ok (o_spec_l01Src_one_Wr_ok N) (addFn_ok (o_spec_l01Src_bytes_Wr_ok N) (addFn_ok (o_spec_l01Src_n_Wr_ok N) (noFn_ok)))))
def s_spec_l01Src_firmTables_Wr_0 (N : Nat) {R : Type} (b2 : Bool) (n9 : Int) (l1 : List Int) (b1 : Bool) (n6 : Int) (n7 : Int) (n8 : Int) (l2 : List Go.Sa.FirmTable) (ag : Bool → Int → Int → Int → (List Go.Sa.FirmTable) → Option R)  (kN : Bool → Int → Int → (List Go.Sa.FirmTable) → Option R) : Option R :=
  (cond (decide ((n6 > (0 : Int))))
  (g_spec_l01Src_n_Wr N (3 : Int) b2 n7 n8 n9 l1 fun n10 n11 n12 =>
    (cond ((decide (((0 : Int) ≤ n10))) && (decide ((n10 < (3 : Int)))))
    (elemK [(ByteArray.mk (List.toArray [(77 : UInt8), (69 : UInt8), (77 : UInt8), (79 : UInt8)])), (ByteArray.mk (List.toArray [(67 : UInt8), (80 : UInt8), (85 : UInt8), (83 : UInt8)])), (ByteArray.mk (List.toArray [(65 : UInt8), (66 : UInt8), (67 : UInt8), (68 : UInt8)]))] (Int.toNat n10) fun x =>
      (g_spec_l01Src_n_Wr N (256 : Int) b2 n11 n12 n9 l1 fun n13 n14 n15 =>
      (g_spec_l01Src_n_Wr N (5 : Int) b2 n14 n15 n9 l1 fun n16 n17 n18 =>
      (g_spec_l01Src_bytes_Wr N (Go.IntKind.wrap Go.IntKind.i64 ((4 : Int) * n16)) b2 n17 n18 n9 l1 fun s n19 n20 =>
      (g_spec_l01Src_one_Wr N (15 : Int) b2 n19 n20 n9 l1 fun b3 n21 n22 =>
      (cond b3
      (g_spec_l01Src_n_Wr N (4 : Int) b2 n21 n22 n9 l1 fun n23 n24 n25 =>
        (cond ((decide (((0 : Int) ≤ n23))) && (decide ((n23 < (4 : Int)))))
        (elemK [(ByteArray.mk (List.toArray [])), (ByteArray.mk (List.toArray [(65 : UInt8), (66 : UInt8), (67 : UInt8)])), (ByteArray.mk (List.toArray [(97 : UInt8), (98 : UInt8), (99 : UInt8), (100 : UInt8)])), (ByteArray.mk (List.toArray [(65 : UInt8), (66 : UInt8), (67 : UInt8), (68 : UInt8), (69 : UInt8)]))] (Int.toNat n23) fun x1 =>
          (g_spec_l01Src_one_Wr N (15 : Int) b2 n24 n25 n9 l1 fun b4 n26 n27 =>
          (cond b4
          (g_spec_l01Src_n_Wr N (2 : Int) b2 n26 n27 n9 l1 fun n28 n29 n30 =>
            (cond ((decide (((0 : Int) ≤ n28))) && (decide ((n28 < (2 : Int)))))
            (elemK [(-(1 : Int)), (256 : Int)] (Int.toNat n28) fun x2 =>
              (g_spec_l01Src_one_Wr N (15 : Int) b2 n29 n30 n9 l1 fun b5 n31 n32 =>
              (cond b5
              (g_spec_l01Src_zeros_Wr N (200 : Int) b2 n31 n32 n9 l1 fun s1 =>
                (g_spec_l01Src_zeros_Wr N (204 : Int) b2 n31 n32 n9 l1 fun s2 =>
                (g_spec_l01Src_n_Wr N (3 : Int) b2 n31 n32 n9 l1 fun n33 n34 n35 =>
                (cond ((decide (((0 : Int) ≤ n33))) && (decide ((n33 < (((List.length [(ByteArray.mk (List.toArray [(97 : UInt8), (98 : UInt8), (99 : UInt8)])), s1, s2]) : Nat) : Int)))))
                (elemK [(ByteArray.mk (List.toArray [(97 : UInt8), (98 : UInt8), (99 : UInt8)])), s1, s2] (Int.toNat n33) fun x3 =>
                  (cond (Go.Eng.roomOk ((List.length l2) + (List.length [(Go.Sa.FirmTable.mk x1 x2 x3)])) 40)
                  (ag (cond (Nat.beq (List.length [(Go.Sa.FirmTable.mk x1 x2 x3)]) 0) b1 Bool.false) (Go.IntKind.wrap Go.IntKind.i64 (n6 - (1 : Int))) n34 n35 (l2 ++ [(Go.Sa.FirmTable.mk x1 x2 x3)]))
                  none))
                none))))
              (cond (Go.Eng.roomOk ((List.length l2) + (List.length [(Go.Sa.FirmTable.mk x1 x2 s)])) 40)
                (ag (cond (Nat.beq (List.length [(Go.Sa.FirmTable.mk x1 x2 s)]) 0) b1 Bool.false) (Go.IntKind.wrap Go.IntKind.i64 (n6 - (1 : Int))) n31 n32 (l2 ++ [(Go.Sa.FirmTable.mk x1 x2 s)]))
                none))))
            none))
          (g_spec_l01Src_one_Wr N (15 : Int) b2 n26 n27 n9 l1 fun b6 n36 n37 =>
            (cond b6
            (g_spec_l01Src_zeros_Wr N (200 : Int) b2 n36 n37 n9 l1 fun s3 =>
              (g_spec_l01Src_zeros_Wr N (204 : Int) b2 n36 n37 n9 l1 fun s4 =>
              (g_spec_l01Src_n_Wr N (3 : Int) b2 n36 n37 n9 l1 fun n38 n39 n40 =>
              (cond ((decide (((0 : Int) ≤ n38))) && (decide ((n38 < (((List.length [(ByteArray.mk (List.toArray [(97 : UInt8), (98 : UInt8), (99 : UInt8)])), s3, s4]) : Nat) : Int)))))
              (elemK [(ByteArray.mk (List.toArray [(97 : UInt8), (98 : UInt8), (99 : UInt8)])), s3, s4] (Int.toNat n38) fun x4 =>
                (cond (Go.Eng.roomOk ((List.length l2) + (List.length [(Go.Sa.FirmTable.mk x1 n13 x4)])) 40)
                (ag (cond (Nat.beq (List.length [(Go.Sa.FirmTable.mk x1 n13 x4)]) 0) b1 Bool.false) (Go.IntKind.wrap Go.IntKind.i64 (n6 - (1 : Int))) n39 n40 (l2 ++ [(Go.Sa.FirmTable.mk x1 n13 x4)]))
                none))
              none))))
            (cond (Go.Eng.roomOk ((List.length l2) + (List.length [(Go.Sa.FirmTable.mk x1 n13 s)])) 40)
              (ag (cond (Nat.beq (List.length [(Go.Sa.FirmTable.mk x1 n13 s)]) 0) b1 Bool.false) (Go.IntKind.wrap Go.IntKind.i64 (n6 - (1 : Int))) n36 n37 (l2 ++ [(Go.Sa.FirmTable.mk x1 n13 s)]))
              none))))))
        none))
      (g_spec_l01Src_one_Wr N (15 : Int) b2 n21 n22 n9 l1 fun b7 n41 n42 =>
        (cond b7
        (g_spec_l01Src_n_Wr N (2 : Int) b2 n41 n42 n9 l1 fun n43 n44 n45 =>
          (cond ((decide (((0 : Int) ≤ n43))) && (decide ((n43 < (2 : Int)))))
          (elemK [(-(1 : Int)), (256 : Int)] (Int.toNat n43) fun x5 =>
            (g_spec_l01Src_one_Wr N (15 : Int) b2 n44 n45 n9 l1 fun b8 n46 n47 =>
            (cond b8
            (g_spec_l01Src_zeros_Wr N (200 : Int) b2 n46 n47 n9 l1 fun s5 =>
              (g_spec_l01Src_zeros_Wr N (204 : Int) b2 n46 n47 n9 l1 fun s6 =>
              (g_spec_l01Src_n_Wr N (3 : Int) b2 n46 n47 n9 l1 fun n48 n49 n50 =>
              (cond ((decide (((0 : Int) ≤ n48))) && (decide ((n48 < (((List.length [(ByteArray.mk (List.toArray [(97 : UInt8), (98 : UInt8), (99 : UInt8)])), s5, s6]) : Nat) : Int)))))
              (elemK [(ByteArray.mk (List.toArray [(97 : UInt8), (98 : UInt8), (99 : UInt8)])), s5, s6] (Int.toNat n48) fun x6 =>
                (cond (Go.Eng.roomOk ((List.length l2) + (List.length [(Go.Sa.FirmTable.mk x x5 x6)])) 40)
                (ag (cond (Nat.beq (List.length [(Go.Sa.FirmTable.mk x x5 x6)]) 0) b1 Bool.false) (Go.IntKind.wrap Go.IntKind.i64 (n6 - (1 : Int))) n49 n50 (l2 ++ [(Go.Sa.FirmTable.mk x x5 x6)]))
                none))
              none))))
            (cond (Go.Eng.roomOk ((List.length l2) + (List.length [(Go.Sa.FirmTable.mk x x5 s)])) 40)
              (ag (cond (Nat.beq (List.length [(Go.Sa.FirmTable.mk x x5 s)]) 0) b1 Bool.false) (Go.IntKind.wrap Go.IntKind.i64 (n6 - (1 : Int))) n46 n47 (l2 ++ [(Go.Sa.FirmTable.mk x x5 s)]))
              none))))
          none))
        (g_spec_l01Src_one_Wr N (15 : Int) b2 n41 n42 n9 l1 fun b9 n51 n52 =>
          (cond b9
          (g_spec_l01Src_zeros_Wr N (200 : Int) b2 n51 n52 n9 l1 fun s7 =>
            (g_spec_l01Src_zeros_Wr N (204 : Int) b2 n51 n52 n9 l1 fun s8 =>
            (g_spec_l01Src_n_Wr N (3 : Int) b2 n51 n52 n9 l1 fun n53 n54 n55 =>
            (cond ((decide (((0 : Int) ≤ n53))) && (decide ((n53 < (((List.length [(ByteArray.mk (List.toArray [(97 : UInt8), (98 : UInt8), (99 : UInt8)])), s7, s8]) : Nat) : Int)))))
            (elemK [(ByteArray.mk (List.toArray [(97 : UInt8), (98 : UInt8), (99 : UInt8)])), s7, s8] (Int.toNat n53) fun x7 =>
              (cond (Go.Eng.roomOk ((List.length l2) + (List.length [(Go.Sa.FirmTable.mk x n13 x7)])) 40)
              (ag (cond (Nat.beq (List.length [(Go.Sa.FirmTable.mk x n13 x7)]) 0) b1 Bool.false) (Go.IntKind.wrap Go.IntKind.i64 (n6 - (1 : Int))) n54 n55 (l2 ++ [(Go.Sa.FirmTable.mk x n13 x7)]))
              none))
            none))))
          (cond (Go.Eng.roomOk ((List.length l2) + (List.length [(Go.Sa.FirmTable.mk x n13 s)])) 40)
            (ag (cond (Nat.beq (List.length [(Go.Sa.FirmTable.mk x n13 s)]) 0) b1 Bool.false) (Go.IntKind.wrap Go.IntKind.i64 (n6 - (1 : Int))) n51 n52 (l2 ++ [(Go.Sa.FirmTable.mk x n13 s)]))
            none)))))))))))
    none))
  (kN b1 n7 n8 l2))
def ga_s_spec_l01Src_firmTables_Wr_0 (N : Nat) (G_spec_TablesOf_w : ∀ {R : Type} (n : Int) (n1 : Int) (b : Bool) (l : List Go.Sa.Device) (k : (List Go.Sa.FirmTable) → Option R), Option R) (G_spec_l01Src_zeros_Wr : ∀ {R : Type} (n : Int) (b : Bool) (n1 : Int) (n2 : Int) (n3 : Int) (l : List Int) (k : ByteArray → Option R), Option R) (G_spec_l01Src_one_Wr : ∀ {R : Type} (n : Int) (b : Bool) (n1 : Int) (n2 : Int) (n3 : Int) (l : List Int) (k : Bool → Int → Int → Option R), Option R) (G_spec_l01Src_bytes_Wr : ∀ {R : Type} (n : Int) (b : Bool) (n1 : Int) (n2 : Int) (n3 : Int) (l : List Int) (k : ByteArray → Int → Int → Option R), Option R) (G_spec_l01Src_n_Wr : ∀ {R : Type} (n : Int) (b : Bool) (n1 : Int) (n2 : Int) (n3 : Int) (l : List Int) (k : Int → Int → Int → Option R), Option R) {R : Type} (b2 : Bool) (n9 : Int) (l1 : List Int) (b1 : Bool) (n6 : Int) (n7 : Int) (n8 : Int) (l2 : List Go.Sa.FirmTable) (ag : Bool → Int → Int → Int → (List Go.Sa.FirmTable) → Option R)  (kN : Bool → Int → Int → (List Go.Sa.FirmTable) → Option R) : Option R :=
  (cond (decide ((n6 > (0 : Int))))
  (G_spec_l01Src_n_Wr (3 : Int) b2 n7 n8 n9 l1 fun n10 n11 n12 =>
    (cond ((decide (((0 : Int) ≤ n10))) && (decide ((n10 < (3 : Int)))))
    (elemK [(ByteArray.mk (List.toArray [(77 : UInt8), (69 : UInt8), (77 : UInt8), (79 : UInt8)])), (ByteArray.mk (List.toArray [(67 : UInt8), (80 : UInt8), (85 : UInt8), (83 : UInt8)])), (ByteArray.mk (List.toArray [(65 : UInt8), (66 : UInt8), (67 : UInt8), (68 : UInt8)]))] (Int.toNat n10) fun x =>
      (G_spec_l01Src_n_Wr (256 : Int) b2 n11 n12 n9 l1 fun n13 n14 n15 =>
      (G_spec_l01Src_n_Wr (5 : Int) b2 n14 n15 n9 l1 fun n16 n17 n18 =>
      (G_spec_l01Src_bytes_Wr (Go.IntKind.wrap Go.IntKind.i64 ((4 : Int) * n16)) b2 n17 n18 n9 l1 fun s n19 n20 =>
      (G_spec_l01Src_one_Wr (15 : Int) b2 n19 n20 n9 l1 fun b3 n21 n22 =>
      (cond b3
      (G_spec_l01Src_n_Wr (4 : Int) b2 n21 n22 n9 l1 fun n23 n24 n25 =>
        (cond ((decide (((0 : Int) ≤ n23))) && (decide ((n23 < (4 : Int)))))
        (elemK [(ByteArray.mk (List.toArray [])), (ByteArray.mk (List.toArray [(65 : UInt8), (66 : UInt8), (67 : UInt8)])), (ByteArray.mk (List.toArray [(97 : UInt8), (98 : UInt8), (99 : UInt8), (100 : UInt8)])), (ByteArray.mk (List.toArray [(65 : UInt8), (66 : UInt8), (67 : UInt8), (68 : UInt8), (69 : UInt8)]))] (Int.toNat n23) fun x1 =>
          (G_spec_l01Src_one_Wr (15 : Int) b2 n24 n25 n9 l1 fun b4 n26 n27 =>
          (cond b4
          (G_spec_l01Src_n_Wr (2 : Int) b2 n26 n27 n9 l1 fun n28 n29 n30 =>
            (cond ((decide (((0 : Int) ≤ n28))) && (decide ((n28 < (2 : Int)))))
            (elemK [(-(1 : Int)), (256 : Int)] (Int.toNat n28) fun x2 =>
              (G_spec_l01Src_one_Wr (15 : Int) b2 n29 n30 n9 l1 fun b5 n31 n32 =>
              (cond b5
              (G_spec_l01Src_zeros_Wr (200 : Int) b2 n31 n32 n9 l1 fun s1 =>
                (G_spec_l01Src_zeros_Wr (204 : Int) b2 n31 n32 n9 l1 fun s2 =>
                (G_spec_l01Src_n_Wr (3 : Int) b2 n31 n32 n9 l1 fun n33 n34 n35 =>
                (cond ((decide (((0 : Int) ≤ n33))) && (decide ((n33 < (((List.length [(ByteArray.mk (List.toArray [(97 : UInt8), (98 : UInt8), (99 : UInt8)])), s1, s2]) : Nat) : Int)))))
                (elemK [(ByteArray.mk (List.toArray [(97 : UInt8), (98 : UInt8), (99 : UInt8)])), s1, s2] (Int.toNat n33) fun x3 =>
                  (cond (Go.Eng.roomOk ((List.length l2) + (List.length [(Go.Sa.FirmTable.mk x1 x2 x3)])) 40)
                  (ag (cond (Nat.beq (List.length [(Go.Sa.FirmTable.mk x1 x2 x3)]) 0) b1 Bool.false) (Go.IntKind.wrap Go.IntKind.i64 (n6 - (1 : Int))) n34 n35 (l2 ++ [(Go.Sa.FirmTable.mk x1 x2 x3)]))
                  none))
                none))))
              (cond (Go.Eng.roomOk ((List.length l2) + (List.length [(Go.Sa.FirmTable.mk x1 x2 s)])) 40)
                (ag (cond (Nat.beq (List.length [(Go.Sa.FirmTable.mk x1 x2 s)]) 0) b1 Bool.false) (Go.IntKind.wrap Go.IntKind.i64 (n6 - (1 : Int))) n31 n32 (l2 ++ [(Go.Sa.FirmTable.mk x1 x2 s)]))
                none))))
            none))
          (G_spec_l01Src_one_Wr (15 : Int) b2 n26 n27 n9 l1 fun b6 n36 n37 =>
            (cond b6
            (G_spec_l01Src_zeros_Wr (200 : Int) b2 n36 n37 n9 l1 fun s3 =>
              (G_spec_l01Src_zeros_Wr (204 : Int) b2 n36 n37 n9 l1 fun s4 =>
              (G_spec_l01Src_n_Wr (3 : Int) b2 n36 n37 n9 l1 fun n38 n39 n40 =>
              (cond ((decide (((0 : Int) ≤ n38))) && (decide ((n38 < (((List.length [(ByteArray.mk (List.toArray [(97 : UInt8), (98 : UInt8), (99 : UInt8)])), s3, s4]) : Nat) : Int)))))
              (elemK [(ByteArray.mk (List.toArray [(97 : UInt8), (98 : UInt8), (99 : UInt8)])), s3, s4] (Int.toNat n38) fun x4 =>
                (cond (Go.Eng.roomOk ((List.length l2) + (List.length [(Go.Sa.FirmTable.mk x1 n13 x4)])) 40)
                (ag (cond (Nat.beq (List.length [(Go.Sa.FirmTable.mk x1 n13 x4)]) 0) b1 Bool.false) (Go.IntKind.wrap Go.IntKind.i64 (n6 - (1 : Int))) n39 n40 (l2 ++ [(Go.Sa.FirmTable.mk x1 n13 x4)]))
                none))
              none))))
            (cond (Go.Eng.roomOk ((List.length l2) + (List.length [(Go.Sa.FirmTable.mk x1 n13 s)])) 40)
              (ag (cond (Nat.beq (List.length [(Go.Sa.FirmTable.mk x1 n13 s)]) 0) b1 Bool.false) (Go.IntKind.wrap Go.IntKind.i64 (n6 - (1 : Int))) n36 n37 (l2 ++ [(Go.Sa.FirmTable.mk x1 n13 s)]))
              none))))))
        none))
      (G_spec_l01Src_one_Wr (15 : Int) b2 n21 n22 n9 l1 fun b7 n41 n42 =>
        (cond b7
        (G_spec_l01Src_n_Wr (2 : Int) b2 n41 n42 n9 l1 fun n43 n44 n45 =>
          (cond ((decide (((0 : Int) ≤ n43))) && (decide ((n43 < (2 : Int)))))
          (elemK [(-(1 : Int)), (256 : Int)] (Int.toNat n43) fun x5 =>
            (G_spec_l01Src_one_Wr (15 : Int) b2 n44 n45 n9 l1 fun b8 n46 n47 =>
            (cond b8
            (G_spec_l01Src_zeros_Wr (200 : Int) b2 n46 n47 n9 l1 fun s5 =>
              (G_spec_l01Src_zeros_Wr (204 : Int) b2 n46 n47 n9 l1 fun s6 =>
              (G_spec_l01Src_n_Wr (3 : Int) b2 n46 n47 n9 l1 fun n48 n49 n50 =>
              (cond ((decide (((0 : Int) ≤ n48))) && (decide ((n48 < (((List.length [(ByteArray.mk (List.toArray [(97 : UInt8), (98 : UInt8), (99 : UInt8)])), s5, s6]) : Nat) : Int)))))
              (elemK [(ByteArray.mk (List.toArray [(97 : UInt8), (98 : UInt8), (99 : UInt8)])), s5, s6] (Int.toNat n48) fun x6 =>
                (cond (Go.Eng.roomOk ((List.length l2) + (List.length [(Go.Sa.FirmTable.mk x x5 x6)])) 40)
                (ag (cond (Nat.beq (List.length [(Go.Sa.FirmTable.mk x x5 x6)]) 0) b1 Bool.false) (Go.IntKind.wrap Go.IntKind.i64 (n6 - (1 : Int))) n49 n50 (l2 ++ [(Go.Sa.FirmTable.mk x x5 x6)]))
                none))
              none))))
            (cond (Go.Eng.roomOk ((List.length l2) + (List.length [(Go.Sa.FirmTable.mk x x5 s)])) 40)
              (ag (cond (Nat.beq (List.length [(Go.Sa.FirmTable.mk x x5 s)]) 0) b1 Bool.false) (Go.IntKind.wrap Go.IntKind.i64 (n6 - (1 : Int))) n46 n47 (l2 ++ [(Go.Sa.FirmTable.mk x x5 s)]))
              none))))
          none))
        (G_spec_l01Src_one_Wr (15 : Int) b2 n41 n42 n9 l1 fun b9 n51 n52 =>
          (cond b9
          (G_spec_l01Src_zeros_Wr (200 : Int) b2 n51 n52 n9 l1 fun s7 =>
            (G_spec_l01Src_zeros_Wr (204 : Int) b2 n51 n52 n9 l1 fun s8 =>
            (G_spec_l01Src_n_Wr (3 : Int) b2 n51 n52 n9 l1 fun n53 n54 n55 =>
            (cond ((decide (((0 : Int) ≤ n53))) && (decide ((n53 < (((List.length [(ByteArray.mk (List.toArray [(97 : UInt8), (98 : UInt8), (99 : UInt8)])), s7, s8]) : Nat) : Int)))))
            (elemK [(ByteArray.mk (List.toArray [(97 : UInt8), (98 : UInt8), (99 : UInt8)])), s7, s8] (Int.toNat n53) fun x7 =>
              (cond (Go.Eng.roomOk ((List.length l2) + (List.length [(Go.Sa.FirmTable.mk x n13 x7)])) 40)
              (ag (cond (Nat.beq (List.length [(Go.Sa.FirmTable.mk x n13 x7)]) 0) b1 Bool.false) (Go.IntKind.wrap Go.IntKind.i64 (n6 - (1 : Int))) n54 n55 (l2 ++ [(Go.Sa.FirmTable.mk x n13 x7)]))
              none))
            none))))
          (cond (Go.Eng.roomOk ((List.length l2) + (List.length [(Go.Sa.FirmTable.mk x n13 s)])) 40)
            (ag (cond (Nat.beq (List.length [(Go.Sa.FirmTable.mk x n13 s)]) 0) b1 Bool.false) (Go.IntKind.wrap Go.IntKind.i64 (n6 - (1 : Int))) n51 n52 (l2 ++ [(Go.Sa.FirmTable.mk x n13 s)]))
            none)))))))))))
    none))
  (kN b1 n7 n8 l2))
def l_spec_l01Src_firmTables_Wr_0 (N : Nat) {R : Type} (b2 : Bool) (n9 : Int) (l1 : List Int) (kN : Bool → Int → Int → (List Go.Sa.FirmTable) → Option R) : Nat → Bool → Int → Int → Int → (List Go.Sa.FirmTable) → Option R
  | 0, _, _, _, _, _ => none
  | f + 1, b1, n6, n7, n8, l2 => s_spec_l01Src_firmTables_Wr_0 N b2 n9 l1 b1 n6 n7 n8 l2 (fun b1 n6 n7 n8 l2 => l_spec_l01Src_firmTables_Wr_0 N b2 n9 l1 kN f b1 n6 n7 n8 l2)  kN
def c_spec_l01Src_firmTables_Wr_0 (N : Nat) {R : Type} (b2 : Bool) (n9 : Int) (l1 : List Int) (b1 : Bool) (n6 : Int) (n7 : Int) (n8 : Int) (l2 : List Go.Sa.FirmTable) (kN : Bool → Int → Int → (List Go.Sa.FirmTable) → Option R) : Option R := l_spec_l01Src_firmTables_Wr_0 N b2 n9 l1 kN N b1 n6 n7 n8 l2
theorem ea_se_spec_l01Src_firmTables_Wr_0 (N : Nat) (G_spec_TablesOf_w : ∀ {R : Type} (n : Int) (n1 : Int) (b : Bool) (l : List Go.Sa.Device) (k : (List Go.Sa.FirmTable) → Option R), Option R) (G_spec_l01Src_zeros_Wr : ∀ {R : Type} (n : Int) (b : Bool) (n1 : Int) (n2 : Int) (n3 : Int) (l : List Int) (k : ByteArray → Option R), Option R) (G_spec_l01Src_one_Wr : ∀ {R : Type} (n : Int) (b : Bool) (n1 : Int) (n2 : Int) (n3 : Int) (l : List Int) (k : Bool → Int → Int → Option R), Option R) (G_spec_l01Src_bytes_Wr : ∀ {R : Type} (n : Int) (b : Bool) (n1 : Int) (n2 : Int) (n3 : Int) (l : List Int) (k : ByteArray → Int → Int → Option R), Option R) (G_spec_l01Src_n_Wr : ∀ {R : Type} (n : Int) (b : Bool) (n1 : Int) (n2 : Int) (n3 : Int) (l : List Int) (k : Int → Int → Int → Option R), Option R) {R : Type} (b2 : Bool) (n9 : Int) (l1 : List Int) (b1 : Bool) (n6 : Int) (n7 : Int) (n8 : Int) (l2 : List Go.Sa.FirmTable) (AG : List (Option AV) → Hp E → Option R) (KL : Ex → List (Option AV) → Hp E → Option R) :
    iterStep (E := E) (OA_spec_l01Src_firmTables_Wr N G_spec_TablesOf_w G_spec_l01Src_zeros_Wr G_spec_l01Src_one_Wr G_spec_l01Src_bytes_Wr G_spec_l01Src_n_Wr) (fun {R} => LI (noIt) 2 77 sl_spec_l01Src_firmTables_Wr (R := R)) J_spec_l01Src_firmTables_Wr 2 77 0 [0, 3, 4] [0, 3] (body Go.Proofs.Try.f104 0) AG KL [(Option.some (Go.Eng.AV.sc (Go.Eng.SV.ptr 0 0 0))), (Option.some (Go.Eng.AV.sc (Go.Eng.SV.slc 2 Option.none b1))), (Option.some (Go.Eng.AV.sc (Go.Eng.SV.int Go.IntKind.i64 n6)))] [(Option.some (Go.Eng.HE.mk Bool.false (Go.Eng.HB.exp Option.none [(Go.Eng.SV.slc 1 Option.none b2), (Go.Eng.SV.int Go.IntKind.i64 n7), (Go.Eng.SV.int Go.IntKind.u64 n8), (Go.Eng.SV.int Go.IntKind.i64 n9)]))), (Option.some (Go.Eng.HE.mk Bool.true (Go.Eng.HB.rows (Go.Sa.B.u8 l1)))), (Option.some (Go.Eng.HE.mk Bool.false (Go.Eng.HB.rows (Go.Sa.B.iFirmTable l2))))] =
      ga_s_spec_l01Src_firmTables_Wr_0 N G_spec_TablesOf_w G_spec_l01Src_zeros_Wr G_spec_l01Src_one_Wr G_spec_l01Src_bytes_Wr G_spec_l01Src_n_Wr b2 n9 l1 b1 n6 n7 n8 l2 (fun b1 n6 n7 n8 l2 => AG [(Option.some (Go.Eng.AV.sc (Go.Eng.SV.ptr 0 0 0))), (Option.some (Go.Eng.AV.sc (Go.Eng.SV.slc 2 Option.none b1))), (Option.some (Go.Eng.AV.sc (Go.Eng.SV.int Go.IntKind.i64 n6)))] [(Option.some (Go.Eng.HE.mk Bool.false (Go.Eng.HB.exp Option.none [(Go.Eng.SV.slc 1 Option.none b2), (Go.Eng.SV.int Go.IntKind.i64 n7), (Go.Eng.SV.int Go.IntKind.u64 n8), (Go.Eng.SV.int Go.IntKind.i64 n9)]))), (Option.some (Go.Eng.HE.mk Bool.true (Go.Eng.HB.rows (Go.Sa.B.u8 l1)))), (Option.some (Go.Eng.HE.mk Bool.false (Go.Eng.HB.rows (Go.Sa.B.iFirmTable l2))))])  (fun b16 n69 n70 l9 => KL Go.Eng.Ex.normal [(Option.some (Go.Eng.AV.sc (Go.Eng.SV.ptr 0 0 0))), (Option.some (Go.Eng.AV.sc (Go.Eng.SV.slc 2 Option.none b16)))] [(Option.some (Go.Eng.HE.mk Bool.false (Go.Eng.HB.exp Option.none [(Go.Eng.SV.slc 1 Option.none b2), (Go.Eng.SV.int Go.IntKind.i64 n69), (Go.Eng.SV.int Go.IntKind.u64 n70), (Go.Eng.SV.int Go.IntKind.i64 n9)]))), (Option.some (Go.Eng.HE.mk Bool.true (Go.Eng.HB.rows (Go.Sa.B.u8 l1)))), (Option.some (Go.Eng.HE.mk Bool.false (Go.Eng.HB.rows (Go.Sa.B.iFirmTable l9))))]) := by kernel_rfl
theorem se_spec_l01Src_firmTables_Wr_0 (N : Nat) {R : Type} (b2 : Bool) (n9 : Int) (l1 : List Int) (b1 : Bool) (n6 : Int) (n7 : Int) (n8 : Int) (l2 : List Go.Sa.FirmTable) (AG : List (Option AV) → Hp E → Option R) (KL : Ex → List (Option AV) → Hp E → Option R) :
    iterStep (E := E) (O_spec_l01Src_firmTables_Wr N) (fun {R} => LI (noIt) 2 77 sl_spec_l01Src_firmTables_Wr (R := R)) J_spec_l01Src_firmTables_Wr 2 77 0 [0, 3, 4] [0, 3] (body Go.Proofs.Try.f104 0) AG KL [(Option.some (Go.Eng.AV.sc (Go.Eng.SV.ptr 0 0 0))), (Option.some (Go.Eng.AV.sc (Go.Eng.SV.slc 2 Option.none b1))), (Option.some (Go.Eng.AV.sc (Go.Eng.SV.int Go.IntKind.i64 n6)))] [(Option.some (Go.Eng.HE.mk Bool.false (Go.Eng.HB.exp Option.none [(Go.Eng.SV.slc 1 Option.none b2), (Go.Eng.SV.int Go.IntKind.i64 n7), (Go.Eng.SV.int Go.IntKind.u64 n8), (Go.Eng.SV.int Go.IntKind.i64 n9)]))), (Option.some (Go.Eng.HE.mk Bool.true (Go.Eng.HB.rows (Go.Sa.B.u8 l1)))), (Option.some (Go.Eng.HE.mk Bool.false (Go.Eng.HB.rows (Go.Sa.B.iFirmTable l2))))] =
      s_spec_l01Src_firmTables_Wr_0 N b2 n9 l1 b1 n6 n7 n8 l2 (fun b1 n6 n7 n8 l2 => AG [(Option.some (Go.Eng.AV.sc (Go.Eng.SV.ptr 0 0 0))), (Option.some (Go.Eng.AV.sc (Go.Eng.SV.slc 2 Option.none b1))), (Option.some (Go.Eng.AV.sc (Go.Eng.SV.int Go.IntKind.i64 n6)))] [(Option.some (Go.Eng.HE.mk Bool.false (Go.Eng.HB.exp Option.none [(Go.Eng.SV.slc 1 Option.none b2), (Go.Eng.SV.int Go.IntKind.i64 n7), (Go.Eng.SV.int Go.IntKind.u64 n8), (Go.Eng.SV.int Go.IntKind.i64 n9)]))), (Option.some (Go.Eng.HE.mk Bool.true (Go.Eng.HB.rows (Go.Sa.B.u8 l1)))), (Option.some (Go.Eng.HE.mk Bool.false (Go.Eng.HB.rows (Go.Sa.B.iFirmTable l2))))])  (fun b16 n69 n70 l9 => KL Go.Eng.Ex.normal [(Option.some (Go.Eng.AV.sc (Go.Eng.SV.ptr 0 0 0))), (Option.some (Go.Eng.AV.sc (Go.Eng.SV.slc 2 Option.none b16)))] [(Option.some (Go.Eng.HE.mk Bool.false (Go.Eng.HB.exp Option.none [(Go.Eng.SV.slc 1 Option.none b2), (Go.Eng.SV.int Go.IntKind.i64 n69), (Go.Eng.SV.int Go.IntKind.u64 n70), (Go.Eng.SV.int Go.IntKind.i64 n9)]))), (Option.some (Go.Eng.HE.mk Bool.true (Go.Eng.HB.rows (Go.Sa.B.u8 l1)))), (Option.some (Go.Eng.HE.mk Bool.false (Go.Eng.HB.rows (Go.Sa.B.iFirmTable l9))))]) := castPr (by kernel_rfl) (ea_se_spec_l01Src_firmTables_Wr_0 N (g_spec_TablesOf_w N) (g_spec_l01Src_zeros_Wr N) (g_spec_l01Src_one_Wr N) (g_spec_l01Src_bytes_Wr N) (g_spec_l01Src_n_Wr N) b2 n9 l1 b1 n6 n7 n8 l2 AG KL)
theorem le_spec_l01Src_firmTables_Wr_0 (N : Nat) {R : Type} (b2 : Bool) (n9 : Int) (l1 : List Int) (KL : Ex → List (Option AV) → Hp E → Option R) : ∀ (f : Nat), ∀ (b1 : Bool) (n6 : Int) (n7 : Int) (n8 : Int) (l2 : List Go.Sa.FirmTable), iterK (E := E) (O_spec_l01Src_firmTables_Wr N) (fun {R} => LI (noIt) 2 77 sl_spec_l01Src_firmTables_Wr (R := R)) J_spec_l01Src_firmTables_Wr 2 77 0 [0, 3, 4] [0, 3] (body Go.Proofs.Try.f104 0) f [(Option.some (Go.Eng.AV.sc (Go.Eng.SV.ptr 0 0 0))), (Option.some (Go.Eng.AV.sc (Go.Eng.SV.slc 2 Option.none b1))), (Option.some (Go.Eng.AV.sc (Go.Eng.SV.int Go.IntKind.i64 n6)))] [(Option.some (Go.Eng.HE.mk Bool.false (Go.Eng.HB.exp Option.none [(Go.Eng.SV.slc 1 Option.none b2), (Go.Eng.SV.int Go.IntKind.i64 n7), (Go.Eng.SV.int Go.IntKind.u64 n8), (Go.Eng.SV.int Go.IntKind.i64 n9)]))), (Option.some (Go.Eng.HE.mk Bool.true (Go.Eng.HB.rows (Go.Sa.B.u8 l1)))), (Option.some (Go.Eng.HE.mk Bool.false (Go.Eng.HB.rows (Go.Sa.B.iFirmTable l2))))] KL = l_spec_l01Src_firmTables_Wr_0 N b2 n9 l1 (fun b16 n69 n70 l9 => KL Go.Eng.Ex.normal [(Option.some (Go.Eng.AV.sc (Go.Eng.SV.ptr 0 0 0))), (Option.some (Go.Eng.AV.sc (Go.Eng.SV.slc 2 Option.none b16)))] [(Option.some (Go.Eng.HE.mk Bool.false (Go.Eng.HB.exp Option.none [(Go.Eng.SV.slc 1 Option.none b2), (Go.Eng.SV.int Go.IntKind.i64 n69), (Go.Eng.SV.int Go.IntKind.u64 n70), (Go.Eng.SV.int Go.IntKind.i64 n9)]))), (Option.some (Go.Eng.HE.mk Bool.true (Go.Eng.HB.rows (Go.Sa.B.u8 l1)))), (Option.some (Go.Eng.HE.mk Bool.false (Go.Eng.HB.rows (Go.Sa.B.iFirmTable l9))))]) f b1 n6 n7 n8 l2 := by
  intro f
  induction f with
  | zero => intros; rfl
  | succ f ih =>
    intro b1 n6 n7 n8 l2
    rw [iterK_succ, se_spec_l01Src_firmTables_Wr_0]
    exact (congrArg (fun z0 => s_spec_l01Src_firmTables_Wr_0 N b2 n9 l1 b1 n6 n7 n8 l2 z0 (fun b16 n69 n70 l9 => KL Go.Eng.Ex.normal [(Option.some (Go.Eng.AV.sc (Go.Eng.SV.ptr 0 0 0))), (Option.some (Go.Eng.AV.sc (Go.Eng.SV.slc 2 Option.none b16)))] [(Option.some (Go.Eng.HE.mk Bool.false (Go.Eng.HB.exp Option.none [(Go.Eng.SV.slc 1 Option.none b2), (Go.Eng.SV.int Go.IntKind.i64 n69), (Go.Eng.SV.int Go.IntKind.u64 n70), (Go.Eng.SV.int Go.IntKind.i64 n9)]))), (Option.some (Go.Eng.HE.mk Bool.true (Go.Eng.HB.rows (Go.Sa.B.u8 l1)))), (Option.some (Go.Eng.HE.mk Bool.false (Go.Eng.HB.rows (Go.Sa.B.iFirmTable l9))))])) (funext fun b1 => funext fun n6 => funext fun n7 => funext fun n8 => funext fun l2 => ih b1 n6 n7 n8 l2))
def i_spec_l01Src_firmTables_Wr_0 (N : Nat) {R : Type} (vs : List (Option AV)) (H : Hp E) (KL : Ex → List (Option AV) → Hp E → Option R) : Option R :=
  match vs, H with
  | [(Option.some (Go.Eng.AV.sc (Go.Eng.SV.ptr 0 0 0))), (Option.some (Go.Eng.AV.sc (Go.Eng.SV.slc 2 Option.none b1))), (Option.some (Go.Eng.AV.sc (Go.Eng.SV.int Go.IntKind.i64 n6)))], [(Option.some (Go.Eng.HE.mk Bool.false (Go.Eng.HB.exp Option.none [(Go.Eng.SV.slc 1 Option.none b2), (Go.Eng.SV.int Go.IntKind.i64 n7), (Go.Eng.SV.int Go.IntKind.u64 n8), (Go.Eng.SV.int Go.IntKind.i64 n9)]))), (Option.some (Go.Eng.HE.mk Bool.true (Go.Eng.HB.rows (Go.Sa.B.u8 l1)))), (Option.some (Go.Eng.HE.mk Bool.false (Go.Eng.HB.rows (Go.Sa.B.iFirmTable l2))))] => c_spec_l01Src_firmTables_Wr_0 N b2 n9 l1 b1 n6 n7 n8 l2 (fun b17 n71 n72 l10 => KL Go.Eng.Ex.normal [(Option.some (Go.Eng.AV.sc (Go.Eng.SV.ptr 0 0 0))), (Option.some (Go.Eng.AV.sc (Go.Eng.SV.slc 2 Option.none b17)))] [(Option.some (Go.Eng.HE.mk Bool.false (Go.Eng.HB.exp Option.none [(Go.Eng.SV.slc 1 Option.none b2), (Go.Eng.SV.int Go.IntKind.i64 n71), (Go.Eng.SV.int Go.IntKind.u64 n72), (Go.Eng.SV.int Go.IntKind.i64 n9)]))), (Option.some (Go.Eng.HE.mk Bool.true (Go.Eng.HB.rows (Go.Sa.B.u8 l1)))), (Option.some (Go.Eng.HE.mk Bool.false (Go.Eng.HB.rows (Go.Sa.B.iFirmTable l10))))])
  | _, _ => none
noncomputable def IT_spec_l01Src_firmTables_Wr_0 (N : Nat) : Its E := addIt 0 (i_spec_l01Src_firmTables_Wr_0 N) (noIt)
theorem IT_spec_l01Src_firmTables_Wr_0_ok (N : Nat) : ItOk (IT_spec_l01Src_firmTables_Wr_0 N) 2 77 sl_spec_l01Src_firmTables_Wr (lsB Go.Proofs.Try.f104 [0]) :=
  addItB_ok (inner := []) ok (O_spec_l01Src_firmTables_Wr_ok N) (jn_ok _ _ _) (noIt_ok) rfl (by kernel_rfl) rfl fun vs H KL r h => by
    unfold i_spec_l01Src_firmTables_Wr_0 at h
    split at h
    · exact ⟨_, (le_spec_l01Src_firmTables_Wr_0 N _ _ _ KL N _ _ _ _ _).trans h⟩
    · cases h
def s_spec_l01Src_firmTables_Wr_2 (N : Nat) {R : Type} (b13 : Bool) (n64 : Int) (n65 : Int) (n66 : Int) (l5 : List Int) (b12 : Bool) (n63 : Int) (l6 : List Go.Sa.FirmTable) (ag : Bool → Int → (List Go.Sa.FirmTable) → Option R)  (kN : Bool → (List Go.Sa.FirmTable) → Option R) : Option R :=
  (cond (decide ((n63 > (0 : Int))))
  (cond (decide (((0 : Int) < (((List.length l6) : Nat) : Int))))
    (elemK l6 0 fun x8 =>
      (cond (Go.Eng.roomOk ((List.length l6) + (List.length [(Go.Sa.FirmTable.mk (Go.Sa.FirmTable.fName x8) (Go.Sa.FirmTable.fRev x8) (Go.Sa.FirmTable.fBody x8))])) 40)
      (ag (cond (Nat.beq (List.length [(Go.Sa.FirmTable.mk (Go.Sa.FirmTable.fName x8) (Go.Sa.FirmTable.fRev x8) (Go.Sa.FirmTable.fBody x8))]) 0) b12 Bool.false) (Go.IntKind.wrap Go.IntKind.i64 (n63 - (1 : Int))) (l6 ++ [(Go.Sa.FirmTable.mk (Go.Sa.FirmTable.fName x8) (Go.Sa.FirmTable.fRev x8) (Go.Sa.FirmTable.fBody x8))]))
      none))
    none)
  (kN b12 l6))
def ga_s_spec_l01Src_firmTables_Wr_2 (N : Nat) (G_spec_TablesOf_w : ∀ {R : Type} (n : Int) (n1 : Int) (b : Bool) (l : List Go.Sa.Device) (k : (List Go.Sa.FirmTable) → Option R), Option R) (G_spec_l01Src_zeros_Wr : ∀ {R : Type} (n : Int) (b : Bool) (n1 : Int) (n2 : Int) (n3 : Int) (l : List Int) (k : ByteArray → Option R), Option R) (G_spec_l01Src_one_Wr : ∀ {R : Type} (n : Int) (b : Bool) (n1 : Int) (n2 : Int) (n3 : Int) (l : List Int) (k : Bool → Int → Int → Option R), Option R) (G_spec_l01Src_bytes_Wr : ∀ {R : Type} (n : Int) (b : Bool) (n1 : Int) (n2 : Int) (n3 : Int) (l : List Int) (k : ByteArray → Int → Int → Option R), Option R) (G_spec_l01Src_n_Wr : ∀ {R : Type} (n : Int) (b : Bool) (n1 : Int) (n2 : Int) (n3 : Int) (l : List Int) (k : Int → Int → Int → Option R), Option R) {R : Type} (b13 : Bool) (n64 : Int) (n65 : Int) (n66 : Int) (l5 : List Int) (b12 : Bool) (n63 : Int) (l6 : List Go.Sa.FirmTable) (ag : Bool → Int → (List Go.Sa.FirmTable) → Option R)  (kN : Bool → (List Go.Sa.FirmTable) → Option R) : Option R :=
  (cond (decide ((n63 > (0 : Int))))
  (cond (decide (((0 : Int) < (((List.length l6) : Nat) : Int))))
    (elemK l6 0 fun x8 =>
      (cond (Go.Eng.roomOk ((List.length l6) + (List.length [(Go.Sa.FirmTable.mk (Go.Sa.FirmTable.fName x8) (Go.Sa.FirmTable.fRev x8) (Go.Sa.FirmTable.fBody x8))])) 40)
      (ag (cond (Nat.beq (List.length [(Go.Sa.FirmTable.mk (Go.Sa.FirmTable.fName x8) (Go.Sa.FirmTable.fRev x8) (Go.Sa.FirmTable.fBody x8))]) 0) b12 Bool.false) (Go.IntKind.wrap Go.IntKind.i64 (n63 - (1 : Int))) (l6 ++ [(Go.Sa.FirmTable.mk (Go.Sa.FirmTable.fName x8) (Go.Sa.FirmTable.fRev x8) (Go.Sa.FirmTable.fBody x8))]))
      none))
    none)
  (kN b12 l6))
def l_spec_l01Src_firmTables_Wr_2 (N : Nat) {R : Type} (b13 : Bool) (n64 : Int) (n65 : Int) (n66 : Int) (l5 : List Int) (kN : Bool → (List Go.Sa.FirmTable) → Option R) : Nat → Bool → Int → (List Go.Sa.FirmTable) → Option R
  | 0, _, _, _ => none
  | f + 1, b12, n63, l6 => s_spec_l01Src_firmTables_Wr_2 N b13 n64 n65 n66 l5 b12 n63 l6 (fun b12 n63 l6 => l_spec_l01Src_firmTables_Wr_2 N b13 n64 n65 n66 l5 kN f b12 n63 l6)  kN
def c_spec_l01Src_firmTables_Wr_2 (N : Nat) {R : Type} (b13 : Bool) (n64 : Int) (n65 : Int) (n66 : Int) (l5 : List Int) (b12 : Bool) (n63 : Int) (l6 : List Go.Sa.FirmTable) (kN : Bool → (List Go.Sa.FirmTable) → Option R) : Option R := l_spec_l01Src_firmTables_Wr_2 N b13 n64 n65 n66 l5 kN N b12 n63 l6
theorem ea_se_spec_l01Src_firmTables_Wr_2 (N : Nat) (G_spec_TablesOf_w : ∀ {R : Type} (n : Int) (n1 : Int) (b : Bool) (l : List Go.Sa.Device) (k : (List Go.Sa.FirmTable) → Option R), Option R) (G_spec_l01Src_zeros_Wr : ∀ {R : Type} (n : Int) (b : Bool) (n1 : Int) (n2 : Int) (n3 : Int) (l : List Int) (k : ByteArray → Option R), Option R) (G_spec_l01Src_one_Wr : ∀ {R : Type} (n : Int) (b : Bool) (n1 : Int) (n2 : Int) (n3 : Int) (l : List Int) (k : Bool → Int → Int → Option R), Option R) (G_spec_l01Src_bytes_Wr : ∀ {R : Type} (n : Int) (b : Bool) (n1 : Int) (n2 : Int) (n3 : Int) (l : List Int) (k : ByteArray → Int → Int → Option R), Option R) (G_spec_l01Src_n_Wr : ∀ {R : Type} (n : Int) (b : Bool) (n1 : Int) (n2 : Int) (n3 : Int) (l : List Int) (k : Int → Int → Int → Option R), Option R) {R : Type} (b13 : Bool) (n64 : Int) (n65 : Int) (n66 : Int) (l5 : List Int) (b12 : Bool) (n63 : Int) (l6 : List Go.Sa.FirmTable) (AG : List (Option AV) → Hp E → Option R) (KL : Ex → List (Option AV) → Hp E → Option R) :
    iterStep (E := E) (OA_spec_l01Src_firmTables_Wr N G_spec_TablesOf_w G_spec_l01Src_zeros_Wr G_spec_l01Src_one_Wr G_spec_l01Src_bytes_Wr G_spec_l01Src_n_Wr) (fun {R} => LI (IT_spec_l01Src_firmTables_Wr_0 N) 2 77 sl_spec_l01Src_firmTables_Wr (R := R)) J_spec_l01Src_firmTables_Wr 2 77 2 [3, 6] [3] (body Go.Proofs.Try.f104 2) AG KL [(Option.some (Go.Eng.AV.sc (Go.Eng.SV.slc 2 Option.none b12))), (Option.some (Go.Eng.AV.sc (Go.Eng.SV.int Go.IntKind.i64 n63)))] [(Option.some (Go.Eng.HE.mk Bool.false (Go.Eng.HB.exp Option.none [(Go.Eng.SV.slc 1 Option.none b13), (Go.Eng.SV.int Go.IntKind.i64 n64), (Go.Eng.SV.int Go.IntKind.u64 n65), (Go.Eng.SV.int Go.IntKind.i64 n66)]))), (Option.some (Go.Eng.HE.mk Bool.true (Go.Eng.HB.rows (Go.Sa.B.u8 l5)))), (Option.some (Go.Eng.HE.mk Bool.false (Go.Eng.HB.rows (Go.Sa.B.iFirmTable l6))))] =
      ga_s_spec_l01Src_firmTables_Wr_2 N G_spec_TablesOf_w G_spec_l01Src_zeros_Wr G_spec_l01Src_one_Wr G_spec_l01Src_bytes_Wr G_spec_l01Src_n_Wr b13 n64 n65 n66 l5 b12 n63 l6 (fun b12 n63 l6 => AG [(Option.some (Go.Eng.AV.sc (Go.Eng.SV.slc 2 Option.none b12))), (Option.some (Go.Eng.AV.sc (Go.Eng.SV.int Go.IntKind.i64 n63)))] [(Option.some (Go.Eng.HE.mk Bool.false (Go.Eng.HB.exp Option.none [(Go.Eng.SV.slc 1 Option.none b13), (Go.Eng.SV.int Go.IntKind.i64 n64), (Go.Eng.SV.int Go.IntKind.u64 n65), (Go.Eng.SV.int Go.IntKind.i64 n66)]))), (Option.some (Go.Eng.HE.mk Bool.true (Go.Eng.HB.rows (Go.Sa.B.u8 l5)))), (Option.some (Go.Eng.HE.mk Bool.false (Go.Eng.HB.rows (Go.Sa.B.iFirmTable l6))))])  (fun b18 l11 => KL Go.Eng.Ex.normal [(Option.some (Go.Eng.AV.sc (Go.Eng.SV.slc 2 Option.none b18)))] [(Option.some (Go.Eng.HE.mk Bool.false (Go.Eng.HB.exp Option.none [(Go.Eng.SV.slc 1 Option.none b13), (Go.Eng.SV.int Go.IntKind.i64 n64), (Go.Eng.SV.int Go.IntKind.u64 n65), (Go.Eng.SV.int Go.IntKind.i64 n66)]))), (Option.some (Go.Eng.HE.mk Bool.true (Go.Eng.HB.rows (Go.Sa.B.u8 l5)))), (Option.some (Go.Eng.HE.mk Bool.false (Go.Eng.HB.rows (Go.Sa.B.iFirmTable l11))))]) := by kernel_rfl
theorem se_spec_l01Src_firmTables_Wr_2 (N : Nat) {R : Type} (b13 : Bool) (n64 : Int) (n65 : Int) (n66 : Int) (l5 : List Int) (b12 : Bool) (n63 : Int) (l6 : List Go.Sa.FirmTable) (AG : List (Option AV) → Hp E → Option R) (KL : Ex → List (Option AV) → Hp E → Option R) :
    iterStep (E := E) (O_spec_l01Src_firmTables_Wr N) (fun {R} => LI (IT_spec_l01Src_firmTables_Wr_0 N) 2 77 sl_spec_l01Src_firmTables_Wr (R := R)) J_spec_l01Src_firmTables_Wr 2 77 2 [3, 6] [3] (body Go.Proofs.Try.f104 2) AG KL [(Option.some (Go.Eng.AV.sc (Go.Eng.SV.slc 2 Option.none b12))), (Option.some (Go.Eng.AV.sc (Go.Eng.SV.int Go.IntKind.i64 n63)))] [(Option.some (Go.Eng.HE.mk Bool.false (Go.Eng.HB.exp Option.none [(Go.Eng.SV.slc 1 Option.none b13), (Go.Eng.SV.int Go.IntKind.i64 n64), (Go.Eng.SV.int Go.IntKind.u64 n65), (Go.Eng.SV.int Go.IntKind.i64 n66)]))), (Option.some (Go.Eng.HE.mk Bool.true (Go.Eng.HB.rows (Go.Sa.B.u8 l5)))), (Option.some (Go.Eng.HE.mk Bool.false (Go.Eng.HB.rows (Go.Sa.B.iFirmTable l6))))] =
      s_spec_l01Src_firmTables_Wr_2 N b13 n64 n65 n66 l5 b12 n63 l6 (fun b12 n63 l6 => AG [(Option.some (Go.Eng.AV.sc (Go.Eng.SV.slc 2 Option.none b12))), (Option.some (Go.Eng.AV.sc (Go.Eng.SV.int Go.IntKind.i64 n63)))] [(Option.some (Go.Eng.HE.mk Bool.false (Go.Eng.HB.exp Option.none [(Go.Eng.SV.slc 1 Option.none b13), (Go.Eng.SV.int Go.IntKind.i64 n64), (Go.Eng.SV.int Go.IntKind.u64 n65), (Go.Eng.SV.int Go.IntKind.i64 n66)]))), (Option.some (Go.Eng.HE.mk Bool.true (Go.Eng.HB.rows (Go.Sa.B.u8 l5)))), (Option.some (Go.Eng.HE.mk Bool.false (Go.Eng.HB.rows (Go.Sa.B.iFirmTable l6))))])  (fun b18 l11 => KL Go.Eng.Ex.normal [(Option.some (Go.Eng.AV.sc (Go.Eng.SV.slc 2 Option.none b18)))] [(Option.some (Go.Eng.HE.mk Bool.false (Go.Eng.HB.exp Option.none [(Go.Eng.SV.slc 1 Option.none b13), (Go.Eng.SV.int Go.IntKind.i64 n64), (Go.Eng.SV.int Go.IntKind.u64 n65), (Go.Eng.SV.int Go.IntKind.i64 n66)]))), (Option.some (Go.Eng.HE.mk Bool.true (Go.Eng.HB.rows (Go.Sa.B.u8 l5)))), (Option.some (Go.Eng.HE.mk Bool.false (Go.Eng.HB.rows (Go.Sa.B.iFirmTable l11))))]) := castPr (by kernel_rfl) (ea_se_spec_l01Src_firmTables_Wr_2 N (g_spec_TablesOf_w N) (g_spec_l01Src_zeros_Wr N) (g_spec_l01Src_one_Wr N) (g_spec_l01Src_bytes_Wr N) (g_spec_l01Src_n_Wr N) b13 n64 n65 n66 l5 b12 n63 l6 AG KL)
theorem le_spec_l01Src_firmTables_Wr_2 (N : Nat) {R : Type} (b13 : Bool) (n64 : Int) (n65 : Int) (n66 : Int) (l5 : List Int) (KL : Ex → List (Option AV) → Hp E → Option R) : ∀ (f : Nat), ∀ (b12 : Bool) (n63 : Int) (l6 : List Go.Sa.FirmTable), iterK (E := E) (O_spec_l01Src_firmTables_Wr N) (fun {R} => LI (IT_spec_l01Src_firmTables_Wr_0 N) 2 77 sl_spec_l01Src_firmTables_Wr (R := R)) J_spec_l01Src_firmTables_Wr 2 77 2 [3, 6] [3] (body Go.Proofs.Try.f104 2) f [(Option.some (Go.Eng.AV.sc (Go.Eng.SV.slc 2 Option.none b12))), (Option.some (Go.Eng.AV.sc (Go.Eng.SV.int Go.IntKind.i64 n63)))] [(Option.some (Go.Eng.HE.mk Bool.false (Go.Eng.HB.exp Option.none [(Go.Eng.SV.slc 1 Option.none b13), (Go.Eng.SV.int Go.IntKind.i64 n64), (Go.Eng.SV.int Go.IntKind.u64 n65), (Go.Eng.SV.int Go.IntKind.i64 n66)]))), (Option.some (Go.Eng.HE.mk Bool.true (Go.Eng.HB.rows (Go.Sa.B.u8 l5)))), (Option.some (Go.Eng.HE.mk Bool.false (Go.Eng.HB.rows (Go.Sa.B.iFirmTable l6))))] KL = l_spec_l01Src_firmTables_Wr_2 N b13 n64 n65 n66 l5 (fun b18 l11 => KL Go.Eng.Ex.normal [(Option.some (Go.Eng.AV.sc (Go.Eng.SV.slc 2 Option.none b18)))] [(Option.some (Go.Eng.HE.mk Bool.false (Go.Eng.HB.exp Option.none [(Go.Eng.SV.slc 1 Option.none b13), (Go.Eng.SV.int Go.IntKind.i64 n64), (Go.Eng.SV.int Go.IntKind.u64 n65), (Go.Eng.SV.int Go.IntKind.i64 n66)]))), (Option.some (Go.Eng.HE.mk Bool.true (Go.Eng.HB.rows (Go.Sa.B.u8 l5)))), (Option.some (Go.Eng.HE.mk Bool.false (Go.Eng.HB.rows (Go.Sa.B.iFirmTable l11))))]) f b12 n63 l6 := by
  intro f
  induction f with
  | zero => intros; rfl
  | succ f ih =>
    intro b12 n63 l6
    rw [iterK_succ, se_spec_l01Src_firmTables_Wr_2]
    exact (congrArg (fun z0 => s_spec_l01Src_firmTables_Wr_2 N b13 n64 n65 n66 l5 b12 n63 l6 z0 (fun b18 l11 => KL Go.Eng.Ex.normal [(Option.some (Go.Eng.AV.sc (Go.Eng.SV.slc 2 Option.none b18)))] [(Option.some (Go.Eng.HE.mk Bool.false (Go.Eng.HB.exp Option.none [(Go.Eng.SV.slc 1 Option.none b13), (Go.Eng.SV.int Go.IntKind.i64 n64), (Go.Eng.SV.int Go.IntKind.u64 n65), (Go.Eng.SV.int Go.IntKind.i64 n66)]))), (Option.some (Go.Eng.HE.mk Bool.true (Go.Eng.HB.rows (Go.Sa.B.u8 l5)))), (Option.some (Go.Eng.HE.mk Bool.false (Go.Eng.HB.rows (Go.Sa.B.iFirmTable l11))))])) (funext fun b12 => funext fun n63 => funext fun l6 => ih b12 n63 l6))
def i_spec_l01Src_firmTables_Wr_2 (N : Nat) {R : Type} (vs : List (Option AV)) (H : Hp E) (KL : Ex → List (Option AV) → Hp E → Option R) : Option R :=
  match vs, H with
  | [(Option.some (Go.Eng.AV.sc (Go.Eng.SV.slc 2 Option.none b12))), (Option.some (Go.Eng.AV.sc (Go.Eng.SV.int Go.IntKind.i64 n63)))], [(Option.some (Go.Eng.HE.mk Bool.false (Go.Eng.HB.exp Option.none [(Go.Eng.SV.slc 1 Option.none b13), (Go.Eng.SV.int Go.IntKind.i64 n64), (Go.Eng.SV.int Go.IntKind.u64 n65), (Go.Eng.SV.int Go.IntKind.i64 n66)]))), (Option.some (Go.Eng.HE.mk Bool.true (Go.Eng.HB.rows (Go.Sa.B.u8 l5)))), (Option.some (Go.Eng.HE.mk Bool.false (Go.Eng.HB.rows (Go.Sa.B.iFirmTable l6))))] => c_spec_l01Src_firmTables_Wr_2 N b13 n64 n65 n66 l5 b12 n63 l6 (fun b19 l12 => KL Go.Eng.Ex.normal [(Option.some (Go.Eng.AV.sc (Go.Eng.SV.slc 2 Option.none b19)))] [(Option.some (Go.Eng.HE.mk Bool.false (Go.Eng.HB.exp Option.none [(Go.Eng.SV.slc 1 Option.none b13), (Go.Eng.SV.int Go.IntKind.i64 n64), (Go.Eng.SV.int Go.IntKind.u64 n65), (Go.Eng.SV.int Go.IntKind.i64 n66)]))), (Option.some (Go.Eng.HE.mk Bool.true (Go.Eng.HB.rows (Go.Sa.B.u8 l5)))), (Option.some (Go.Eng.HE.mk Bool.false (Go.Eng.HB.rows (Go.Sa.B.iFirmTable l12))))])
  | _, _ => none
noncomputable def IT_spec_l01Src_firmTables_Wr_2 (N : Nat) : Its E := addIt 2 (i_spec_l01Src_firmTables_Wr_2 N) (IT_spec_l01Src_firmTables_Wr_0 N)
theorem IT_spec_l01Src_firmTables_Wr_2_ok (N : Nat) : ItOk (IT_spec_l01Src_firmTables_Wr_2 N) 2 77 sl_spec_l01Src_firmTables_Wr (lsB Go.Proofs.Try.f104 [2, 0]) :=
  addItB_ok (inner := []) ok (O_spec_l01Src_firmTables_Wr_ok N) (jn_ok _ _ _) (IT_spec_l01Src_firmTables_Wr_0_ok N) rfl (by kernel_rfl) rfl fun vs H KL r h => by
    unfold i_spec_l01Src_firmTables_Wr_2 at h
    split at h
    · exact ⟨_, (le_spec_l01Src_firmTables_Wr_2 N _ _ _ _ _ KL N _ _ _).trans h⟩
    · cases h
def g_spec_l01Src_firmTables_Wr (N : Nat) {R : Type} (b : Bool) (n : Int) (n1 : Int) (n2 : Int) (l : List Int) (k : Bool → Int → Int → (List Go.Sa.FirmTable) → Option R) : Option R :=
  (g_spec_l01Src_n_Wr N (4 : Int) b n n1 n2 l fun n3 n4 n5 =>
  (c_spec_l01Src_firmTables_Wr_0 N b n2 l Bool.false n3 n4 n5 [] fun b10 n56 n57 l3 =>
  (g_spec_l01Src_one_Wr N (30 : Int) b n56 n57 n2 l fun b11 n58 n59 =>
  (cond b11
  (g_spec_TablesOf_w N (2 : Int) (1 : Int) Bool.true [] fun l4 =>
    (g_spec_l01Src_n_Wr N (2 : Int) b n58 n59 n2 l fun n60 n61 n62 =>
    (c_spec_l01Src_firmTables_Wr_2 N b n61 n62 n2 l Bool.false (Go.IntKind.wrap Go.IntKind.i64 ((7 : Int) + n60)) l4 fun b14 l7 =>
    (k b14 n61 n62 l7))))
  (k b10 n58 n59 l3)))))
def ga_g_spec_l01Src_firmTables_Wr (N : Nat) (G_spec_TablesOf_w : ∀ {R : Type} (n : Int) (n1 : Int) (b : Bool) (l : List Go.Sa.Device) (k : (List Go.Sa.FirmTable) → Option R), Option R) (G_spec_l01Src_zeros_Wr : ∀ {R : Type} (n : Int) (b : Bool) (n1 : Int) (n2 : Int) (n3 : Int) (l : List Int) (k : ByteArray → Option R), Option R) (G_spec_l01Src_one_Wr : ∀ {R : Type} (n : Int) (b : Bool) (n1 : Int) (n2 : Int) (n3 : Int) (l : List Int) (k : Bool → Int → Int → Option R), Option R) (G_spec_l01Src_bytes_Wr : ∀ {R : Type} (n : Int) (b : Bool) (n1 : Int) (n2 : Int) (n3 : Int) (l : List Int) (k : ByteArray → Int → Int → Option R), Option R) (G_spec_l01Src_n_Wr : ∀ {R : Type} (n : Int) (b : Bool) (n1 : Int) (n2 : Int) (n3 : Int) (l : List Int) (k : Int → Int → Int → Option R), Option R) {R : Type} (b : Bool) (n : Int) (n1 : Int) (n2 : Int) (l : List Int) (k : Bool → Int → Int → (List Go.Sa.FirmTable) → Option R) : Option R :=
  (G_spec_l01Src_n_Wr (4 : Int) b n n1 n2 l fun n3 n4 n5 =>
  (c_spec_l01Src_firmTables_Wr_0 N b n2 l Bool.false n3 n4 n5 [] fun b10 n56 n57 l3 =>
  (G_spec_l01Src_one_Wr (30 : Int) b n56 n57 n2 l fun b11 n58 n59 =>
  (cond b11
  (G_spec_TablesOf_w (2 : Int) (1 : Int) Bool.true [] fun l4 =>
    (G_spec_l01Src_n_Wr (2 : Int) b n58 n59 n2 l fun n60 n61 n62 =>
    (c_spec_l01Src_firmTables_Wr_2 N b n61 n62 n2 l Bool.false (Go.IntKind.wrap Go.IntKind.i64 ((7 : Int) + n60)) l4 fun b14 l7 =>
    (k b14 n61 n62 l7))))
  (k b10 n58 n59 l3)))))
theorem ea_e_spec_l01Src_firmTables_Wr (N : Nat) (G_spec_TablesOf_w : ∀ {R : Type} (n : Int) (n1 : Int) (b : Bool) (l : List Go.Sa.Device) (k : (List Go.Sa.FirmTable) → Option R), Option R) (G_spec_l01Src_zeros_Wr : ∀ {R : Type} (n : Int) (b : Bool) (n1 : Int) (n2 : Int) (n3 : Int) (l : List Int) (k : ByteArray → Option R), Option R) (G_spec_l01Src_one_Wr : ∀ {R : Type} (n : Int) (b : Bool) (n1 : Int) (n2 : Int) (n3 : Int) (l : List Int) (k : Bool → Int → Int → Option R), Option R) (G_spec_l01Src_bytes_Wr : ∀ {R : Type} (n : Int) (b : Bool) (n1 : Int) (n2 : Int) (n3 : Int) (l : List Int) (k : ByteArray → Int → Int → Option R), Option R) (G_spec_l01Src_n_Wr : ∀ {R : Type} (n : Int) (b : Bool) (n1 : Int) (n2 : Int) (n3 : Int) (l : List Int) (k : Int → Int → Int → Option R), Option R) {R : Type} (b : Bool) (n : Int) (n1 : Int) (n2 : Int) (l : List Int) (K : AV → Hp E → Option R) :
    runFnI (E := E) (OA_spec_l01Src_firmTables_Wr N G_spec_TablesOf_w G_spec_l01Src_zeros_Wr G_spec_l01Src_one_Wr G_spec_l01Src_bytes_Wr G_spec_l01Src_n_Wr) (IT_spec_l01Src_firmTables_Wr_2 N) sl_spec_l01Src_firmTables_Wr J_spec_l01Src_firmTables_Wr Go.Proofs.Try.f104 [(Go.Eng.AV.sc (Go.Eng.SV.ptr 0 0 0))] [(Option.some (Go.Eng.HE.mk Bool.false (Go.Eng.HB.exp Option.none [(Go.Eng.SV.slc 1 Option.none b), (Go.Eng.SV.int Go.IntKind.i64 n), (Go.Eng.SV.int Go.IntKind.u64 n1), (Go.Eng.SV.int Go.IntKind.i64 n2)]))), (Option.some (Go.Eng.HE.mk Bool.true (Go.Eng.HB.rows (Go.Sa.B.u8 l))))] K =
      ga_g_spec_l01Src_firmTables_Wr N G_spec_TablesOf_w G_spec_l01Src_zeros_Wr G_spec_l01Src_one_Wr G_spec_l01Src_bytes_Wr G_spec_l01Src_n_Wr b n n1 n2 l (fun b15 n67 n68 l8 => K (Go.Eng.AV.sc (Go.Eng.SV.slc 2 Option.none b15)) [(Option.some (Go.Eng.HE.mk Bool.false (Go.Eng.HB.exp Option.none [(Go.Eng.SV.slc 1 Option.none b), (Go.Eng.SV.int Go.IntKind.i64 n67), (Go.Eng.SV.int Go.IntKind.u64 n68), (Go.Eng.SV.int Go.IntKind.i64 n2)]))), (Option.some (Go.Eng.HE.mk Bool.true (Go.Eng.HB.rows (Go.Sa.B.u8 l)))), (Option.some (Go.Eng.HE.mk Bool.false (Go.Eng.HB.rows (Go.Sa.B.iFirmTable l8))))]) := by kernel_rfl
theorem e_spec_l01Src_firmTables_Wr (N : Nat) {R : Type} (b : Bool) (n : Int) (n1 : Int) (n2 : Int) (l : List Int) (K : AV → Hp E → Option R) :
    runFnI (E := E) (O_spec_l01Src_firmTables_Wr N) (IT_spec_l01Src_firmTables_Wr_2 N) sl_spec_l01Src_firmTables_Wr J_spec_l01Src_firmTables_Wr Go.Proofs.Try.f104 [(Go.Eng.AV.sc (Go.Eng.SV.ptr 0 0 0))] [(Option.some (Go.Eng.HE.mk Bool.false (Go.Eng.HB.exp Option.none [(Go.Eng.SV.slc 1 Option.none b), (Go.Eng.SV.int Go.IntKind.i64 n), (Go.Eng.SV.int Go.IntKind.u64 n1), (Go.Eng.SV.int Go.IntKind.i64 n2)]))), (Option.some (Go.Eng.HE.mk Bool.true (Go.Eng.HB.rows (Go.Sa.B.u8 l))))] K =
      g_spec_l01Src_firmTables_Wr N b n n1 n2 l (fun b15 n67 n68 l8 => K (Go.Eng.AV.sc (Go.Eng.SV.slc 2 Option.none b15)) [(Option.some (Go.Eng.HE.mk Bool.false (Go.Eng.HB.exp Option.none [(Go.Eng.SV.slc 1 Option.none b), (Go.Eng.SV.int Go.IntKind.i64 n67), (Go.Eng.SV.int Go.IntKind.u64 n68), (Go.Eng.SV.int Go.IntKind.i64 n2)]))), (Option.some (Go.Eng.HE.mk Bool.true (Go.Eng.HB.rows (Go.Sa.B.u8 l)))), (Option.some (Go.Eng.HE.mk Bool.false (Go.Eng.HB.rows (Go.Sa.B.iFirmTable l8))))]) := castPr (by kernel_rfl) (ea_e_spec_l01Src_firmTables_Wr N (g_spec_TablesOf_w N) (g_spec_l01Src_zeros_Wr N) (g_spec_l01Src_one_Wr N) (g_spec_l01Src_bytes_Wr N) (g_spec_l01Src_n_Wr N) b n n1 n2 l K)
def o_spec_l01Src_firmTables_Wr (N : Nat) {R : Type} (args : List AV) (H : Hp E) (K : AV → Hp E → Option R) : Option R :=
  match args, H with
  | [(Go.Eng.AV.sc (Go.Eng.SV.ptr 0 0 0))], [(Option.some (Go.Eng.HE.mk Bool.false (Go.Eng.HB.exp Option.none [(Go.Eng.SV.slc 1 Option.none b), (Go.Eng.SV.int Go.IntKind.i64 n), (Go.Eng.SV.int Go.IntKind.u64 n1), (Go.Eng.SV.int Go.IntKind.i64 n2)]))), (Option.some (Go.Eng.HE.mk Bool.true (Go.Eng.HB.rows (Go.Sa.B.u8 l))))] => g_spec_l01Src_firmTables_Wr N b n n1 n2 l (fun b15 n67 n68 l8 => K (Go.Eng.AV.sc (Go.Eng.SV.slc 2 Option.none b15)) [(Option.some (Go.Eng.HE.mk Bool.false (Go.Eng.HB.exp Option.none [(Go.Eng.SV.slc 1 Option.none b), (Go.Eng.SV.int Go.IntKind.i64 n67), (Go.Eng.SV.int Go.IntKind.u64 n68), (Go.Eng.SV.int Go.IntKind.i64 n2)]))), (Option.some (Go.Eng.HE.mk Bool.true (Go.Eng.HB.rows (Go.Sa.B.u8 l)))), (Option.some (Go.Eng.HE.mk Bool.false (Go.Eng.HB.rows (Go.Sa.B.iFirmTable l8))))])
  | _, _ => none
theorem o_spec_l01Src_firmTables_Wr_ok (N : Nat) : FnOk E 104 (o_spec_l01Src_firmTables_Wr N) := by
  intro R args H K r h
  unfold o_spec_l01Src_firmTables_Wr at h
  dsimp only at h
  split at h
  · exact fnB_ok (ids := [2, 0]) (top := [0, 2]) ok (O_spec_l01Src_firmTables_Wr_ok N) (jn_ok _ _ _) Go.Proofs.Try.func104 (by kernel_rfl) (IT := IT_spec_l01Src_firmTables_Wr_2 N) (sl := sl_spec_l01Src_firmTables_Wr) (J := J_spec_l01Src_firmTables_Wr) (K := K) (H := [(Option.some (Go.Eng.HE.mk Bool.false (Go.Eng.HB.exp Option.none [(Go.Eng.SV.slc 1 Option.none _), (Go.Eng.SV.int Go.IntKind.i64 _), (Go.Eng.SV.int Go.IntKind.u64 _), (Go.Eng.SV.int Go.IntKind.i64 _)]))), (Option.some (Go.Eng.HE.mk Bool.true (Go.Eng.HB.rows (Go.Sa.B.u8 _))))]) (IT_spec_l01Src_firmTables_Wr_2_ok N) (by kernel_rfl) rfl ((e_spec_l01Src_firmTables_Wr N _ _ _ _ _ K).trans h)
  · cases h
end Go.Sa
