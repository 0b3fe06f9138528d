import Derived.Test.YtmmgjioemnhoaaaSpec
import Derived.Test.YtmmgjioemnhoaaaPLb
import Derived.Test.YtmmgjioemnhoaaaW3
set_option linter.all false
namespace Go.Sa
open Go Go.Eng Go.Proofs
set_option maxRecDepth 100000
/-! ### (*loop.example/g00038/spec.l01Src).anyVolume -/
abbrev sl_spec_l01Src_anyVolume_Wr : SlotT := []
abbrev J_spec_l01Src_anyVolume_Wr : JT := jn [] [] [(10, [8]), (12, [8]), (14, [4]), (16, [15])]
noncomputable def O_spec_l01Src_anyVolume_Wr (N : Nat) : Orc E := addFn 98 (o_spec_l01Src_spoil_Wr N) (addFn 91 (o_spec_l01Src_n_Wr N) (addFn 94 (o_spec_l01Src_one_Wr N) (addFn 121 (o_spec_l01Src_volume_Wr N) (noFn))))
def pa_spec_l01Src_anyVolume_Wr__o_spec_l01Src_spoil_Wr (N : Nat) (G_spec_l01Src_spoil_Wr : ∀ {R : Type} (s : ByteArray) (b : Bool) (n : Int) (n1 : Int) (n2 : Int) (l : List Int) (k : ByteArray → Int → Int → Option R), Option R) (G_spec_l01Src_n_Wr : ∀ {R : Type} (n : Int) (b : Bool) (n1 : Int) (n2 : Int) (n3 : Int) (l : List Int) (k : Int → Int → Int → Option R), Option R) (G_spec_l01Src_one_Wr : ∀ {R : Type} (n : Int) (b : Bool) (n1 : Int) (n2 : Int) (n3 : Int) (l : List Int) (k : Bool → Int → Int → Option R), Option R) (G_spec_l01Src_volume_Wr : ∀ {R : Type} (b : Bool) (n : Int) (n1 : Int) (n2 : Int) (l : List Int) (k : Bool → ByteArray → Int → Int → (List Go.Sa.KeySlot) → Option R), Option R) {R : Type} (args : List AV) (H : Hp E) (K : AV → Hp E → Option R) : Option R :=
  match args, H with
  | [(Go.Eng.AV.sc (Go.Eng.SV.ptr 0 0 0)), (Go.Eng.AV.sc (Go.Eng.SV.str s))], [(Option.some (Go.Eng.HE.mk Bool.false (Go.Eng.HB.exp Option.none [(Go.Eng.SV.slc 1 Option.none b), (Go.Eng.SV.int Go.IntKind.i64 n), (Go.Eng.SV.int Go.IntKind.u64 n1), (Go.Eng.SV.int Go.IntKind.i64 n2)]))), (Option.some (Go.Eng.HE.mk Bool.true (Go.Eng.HB.rows (Go.Sa.B.u8 l))))] => G_spec_l01Src_spoil_Wr s b n n1 n2 l (fun s1 n13 n14 => K (Go.Eng.AV.sc (Go.Eng.SV.str s1)) [(Option.some (Go.Eng.HE.mk Bool.false (Go.Eng.HB.exp Option.none [(Go.Eng.SV.slc 1 Option.none b), (Go.Eng.SV.int Go.IntKind.i64 n13), (Go.Eng.SV.int Go.IntKind.u64 n14), (Go.Eng.SV.int Go.IntKind.i64 n2)]))), (Option.some (Go.Eng.HE.mk Bool.true (Go.Eng.HB.rows (Go.Sa.B.u8 l))))])
  | _, _ => none
def pa_spec_l01Src_anyVolume_Wr__o_spec_l01Src_n_Wr (N : Nat) (G_spec_l01Src_spoil_Wr : ∀ {R : Type} (s : ByteArray) (b : Bool) (n : Int) (n1 : Int) (n2 : Int) (l : List Int) (k : ByteArray → Int → Int → Option R), Option R) (G_spec_l01Src_n_Wr : ∀ {R : Type} (n : Int) (b : Bool) (n1 : Int) (n2 : Int) (n3 : Int) (l : List Int) (k : Int → Int → Int → Option R), Option R) (G_spec_l01Src_one_Wr : ∀ {R : Type} (n : Int) (b : Bool) (n1 : Int) (n2 : Int) (n3 : Int) (l : List Int) (k : Bool → Int → Int → Option R), Option R) (G_spec_l01Src_volume_Wr : ∀ {R : Type} (b : Bool) (n : Int) (n1 : Int) (n2 : Int) (l : List Int) (k : Bool → ByteArray → Int → Int → (List Go.Sa.KeySlot) → Option R), Option R) {R : Type} (args : List AV) (H : Hp E) (K : AV → Hp E → Option R) : Option R :=
  match args, H with
  | [(Go.Eng.AV.sc (Go.Eng.SV.ptr 0 0 0)), (Go.Eng.AV.sc (Go.Eng.SV.int Go.IntKind.i64 n))], [(Option.some (Go.Eng.HE.mk Bool.false (Go.Eng.HB.exp Option.none [(Go.Eng.SV.slc 1 Option.none b), (Go.Eng.SV.int Go.IntKind.i64 n1), (Go.Eng.SV.int Go.IntKind.u64 n2), (Go.Eng.SV.int Go.IntKind.i64 n3)]))), (Option.some (Go.Eng.HE.mk Bool.true (Go.Eng.HB.rows (Go.Sa.B.u8 l))))] => G_spec_l01Src_n_Wr n b n1 n2 n3 l (fun n4 n5 n6 => K (Go.Eng.AV.sc (Go.Eng.SV.int Go.IntKind.i64 n4)) [(Option.some (Go.Eng.HE.mk Bool.false (Go.Eng.HB.exp Option.none [(Go.Eng.SV.slc 1 Option.none b), (Go.Eng.SV.int Go.IntKind.i64 n5), (Go.Eng.SV.int Go.IntKind.u64 n6), (Go.Eng.SV.int Go.IntKind.i64 n3)]))), (Option.some (Go.Eng.HE.mk Bool.true (Go.Eng.HB.rows (Go.Sa.B.u8 l))))])
  | _, _ => none
def pa_spec_l01Src_anyVolume_Wr__o_spec_l01Src_one_Wr (N : Nat) (G_spec_l01Src_spoil_Wr : ∀ {R : Type} (s : ByteArray) (b : Bool) (n : Int) (n1 : Int) (n2 : Int) (l : List Int) (k : ByteArray → Int → Int → Option R), Option R) (G_spec_l01Src_n_Wr : ∀ {R : Type} (n : Int) (b : Bool) (n1 : Int) (n2 : Int) (n3 : Int) (l : List Int) (k : Int → Int → Int → Option R), Option R) (G_spec_l01Src_one_Wr : ∀ {R : Type} (n : Int) (b : Bool) (n1 : Int) (n2 : Int) (n3 : Int) (l : List Int) (k : Bool → Int → Int → Option R), Option R) (G_spec_l01Src_volume_Wr : ∀ {R : Type} (b : Bool) (n : Int) (n1 : Int) (n2 : Int) (l : List Int) (k : Bool → ByteArray → Int → Int → (List Go.Sa.KeySlot) → Option R), Option R) {R : Type} (args : List AV) (H : Hp E) (K : AV → Hp E → Option R) : Option R :=
  match args, H with
  | [(Go.Eng.AV.sc (Go.Eng.SV.ptr 0 0 0)), (Go.Eng.AV.sc (Go.Eng.SV.int Go.IntKind.i64 n))], [(Option.some (Go.Eng.HE.mk Bool.false (Go.Eng.HB.exp Option.none [(Go.Eng.SV.slc 1 Option.none b), (Go.Eng.SV.int Go.IntKind.i64 n1), (Go.Eng.SV.int Go.IntKind.u64 n2), (Go.Eng.SV.int Go.IntKind.i64 n3)]))), (Option.some (Go.Eng.HE.mk Bool.true (Go.Eng.HB.rows (Go.Sa.B.u8 l))))] => G_spec_l01Src_one_Wr n b n1 n2 n3 l (fun b1 n7 n8 => K (Go.Eng.AV.sc (Go.Eng.SV.bool b1)) [(Option.some (Go.Eng.HE.mk Bool.false (Go.Eng.HB.exp Option.none [(Go.Eng.SV.slc 1 Option.none b), (Go.Eng.SV.int Go.IntKind.i64 n7), (Go.Eng.SV.int Go.IntKind.u64 n8), (Go.Eng.SV.int Go.IntKind.i64 n3)]))), (Option.some (Go.Eng.HE.mk Bool.true (Go.Eng.HB.rows (Go.Sa.B.u8 l))))])
  | _, _ => none
def pa_spec_l01Src_anyVolume_Wr__o_spec_l01Src_volume_Wr (N : Nat) (G_spec_l01Src_spoil_Wr : ∀ {R : Type} (s : ByteArray) (b : Bool) (n : Int) (n1 : Int) (n2 : Int) (l : List Int) (k : ByteArray → Int → Int → Option R), Option R) (G_spec_l01Src_n_Wr : ∀ {R : Type} (n : Int) (b : Bool) (n1 : Int) (n2 : Int) (n3 : Int) (l : List Int) (k : Int → Int → Int → Option R), Option R) (G_spec_l01Src_one_Wr : ∀ {R : Type} (n : Int) (b : Bool) (n1 : Int) (n2 : Int) (n3 : Int) (l : List Int) (k : Bool → Int → Int → Option R), Option R) (G_spec_l01Src_volume_Wr : ∀ {R : Type} (b : Bool) (n : Int) (n1 : Int) (n2 : Int) (l : List Int) (k : Bool → ByteArray → Int → Int → (List Go.Sa.KeySlot) → Option R), Option R) {R : Type} (args : List AV) (H : Hp E) (K : AV → Hp E → Option R) : Option R :=
  match args, H with
  | [(Go.Eng.AV.sc (Go.Eng.SV.ptr 0 0 0))], [(Option.some (Go.Eng.HE.mk Bool.false (Go.Eng.HB.exp Option.none [(Go.Eng.SV.slc 1 Option.none b), (Go.Eng.SV.int Go.IntKind.i64 n), (Go.Eng.SV.int Go.IntKind.u64 n1), (Go.Eng.SV.int Go.IntKind.i64 n2)]))), (Option.some (Go.Eng.HE.mk Bool.true (Go.Eng.HB.rows (Go.Sa.B.u8 l))))] => G_spec_l01Src_volume_Wr b n n1 n2 l (fun b10 s7 n24 n25 l9 => K (Go.Eng.AV.agg [(Go.Eng.SV.slc 2 Option.none b10), (Go.Eng.SV.str s7)]) [(Option.some (Go.Eng.HE.mk Bool.false (Go.Eng.HB.exp Option.none [(Go.Eng.SV.slc 1 Option.none b), (Go.Eng.SV.int Go.IntKind.i64 n24), (Go.Eng.SV.int Go.IntKind.u64 n25), (Go.Eng.SV.int Go.IntKind.i64 n2)]))), (Option.some (Go.Eng.HE.mk Bool.true (Go.Eng.HB.rows (Go.Sa.B.u8 l)))), (Option.some (Go.Eng.HE.mk Bool.false (Go.Eng.HB.rows (Go.Sa.B.iKeySlot l9))))])
  | _, _ => none
noncomputable def OA_spec_l01Src_anyVolume_Wr (N : Nat) (G_spec_l01Src_spoil_Wr : ∀ {R : Type} (s : ByteArray) (b : Bool) (n : Int) (n1 : Int) (n2 : Int) (l : List Int) (k : ByteArray → Int → Int → Option R), Option R) (G_spec_l01Src_n_Wr : ∀ {R : Type} (n : Int) (b : Bool) (n1 : Int) (n2 : Int) (n3 : Int) (l : List Int) (k : Int → Int → Int → Option R), Option R) (G_spec_l01Src_one_Wr : ∀ {R : Type} (n : Int) (b : Bool) (n1 : Int) (n2 : Int) (n3 : Int) (l : List Int) (k : Bool → Int → Int → Option R), Option R) (G_spec_l01Src_volume_Wr : ∀ {R : Type} (b : Bool) (n : Int) (n1 : Int) (n2 : Int) (l : List Int) (k : Bool → ByteArray → Int → Int → (List Go.Sa.KeySlot) → Option R), Option R) : Orc E := addFn 98 (pa_spec_l01Src_anyVolume_Wr__o_spec_l01Src_spoil_Wr N G_spec_l01Src_spoil_Wr G_spec_l01Src_n_Wr G_spec_l01Src_one_Wr G_spec_l01Src_volume_Wr) (addFn 91 (pa_spec_l01Src_anyVolume_Wr__o_spec_l01Src_n_Wr N G_spec_l01Src_spoil_Wr G_spec_l01Src_n_Wr G_spec_l01Src_one_Wr G_spec_l01Src_volume_Wr) (addFn 94 (pa_spec_l01Src_anyVolume_Wr__o_spec_l01Src_one_Wr N G_spec_l01Src_spoil_Wr G_spec_l01Src_n_Wr G_spec_l01Src_one_Wr G_spec_l01Src_volume_Wr) (addFn 121 (pa_spec_l01Src_anyVolume_Wr__o_spec_l01Src_volume_Wr N G_spec_l01Src_spoil_Wr G_spec_l01Src_n_Wr G_spec_l01Src_one_Wr G_spec_l01Src_volume_Wr) (noFn))))
theorem O_spec_l01Src_anyVolume_Wr_ok (N : Nat) : OrcOk (O_spec_l01Src_anyVolume_Wr N) := addFn_ok (o_spec_l01Src_spoil_Wr_ok N) (addFn_ok (o_spec_l01Src_n_Wr_ok N) (addFn_ok (o_spec_l01Src_one_Wr_ok N) (addFn_ok (o_spec_l01Src_volume_Wr_ok N) (noFn_ok))))
def g_spec_l01Src_anyVolume_Wr (N : Nat) {R : Type} (b : Bool) (n : Int) (n1 : Int) (n2 : Int) (l : List Int) (k : Bool → ByteArray → Int → Int → (List Go.Sa.KeySlot) → Option R) : Option R :=
  (g_spec_l01Src_volume_Wr N b n n1 n2 l fun b1 s n3 n4 l1 =>
  (g_spec_l01Src_one_Wr N (4 : Int) b n3 n4 n2 l fun b2 n5 n6 =>
  (cond (!b2)
  (k b1 s n5 n6 l1)
  (g_spec_l01Src_n_Wr N (6 : Int) b n5 n6 n2 l fun n7 n8 n9 =>
    (cond (n7 == (0 : Int))
    (k Bool.false s n8 n9 [])
    (cond (n7 == (1 : Int))
      (g_spec_l01Src_spoil_Wr N s b n8 n9 n2 l fun s1 n10 n11 =>
        (k b1 s1 n10 n11 l1))
      (cond (n7 == (2 : Int))
        (cond (decide (((0 : Int) < (((List.length l1) : Nat) : Int))))
          (elemK l1 0 fun x =>
            (g_spec_l01Src_spoil_Wr N (Go.Sa.KeySlot.fKey x) b n8 n9 n2 l fun s2 n12 n13 =>
            (cond (decide (((0 : Int) < (((List.length l1) : Nat) : Int))))
            (elemK l1 0 fun x1 =>
              (cond (Nat.blt 0 (List.length l1))
              (k b1 s n12 n13 (Go.Eng.nset l1 0 (Go.Sa.KeySlot.mk (Go.Sa.KeySlot.fSalt x1) s2 (Go.Sa.KeySlot.fTag x1))))
              none))
            none)))
          none)
        (cond (n7 == (3 : Int))
          (cond (decide (((0 : Int) < (((List.length l1) : Nat) : Int))))
            (elemK l1 0 fun x2 =>
              (g_spec_l01Src_spoil_Wr N (Go.Sa.KeySlot.fTag x2) b n8 n9 n2 l fun s3 n14 n15 =>
              (cond (decide (((0 : Int) < (((List.length l1) : Nat) : Int))))
              (elemK l1 0 fun x3 =>
                (cond (Nat.blt 0 (List.length l1))
                (k b1 s n14 n15 (Go.Eng.nset l1 0 (Go.Sa.KeySlot.mk (Go.Sa.KeySlot.fSalt x3) (Go.Sa.KeySlot.fKey x3) s3)))
                none))
              none)))
            none)
          (cond (n7 == (4 : Int))
            (g_spec_l01Src_n_Wr N (3 : Int) b n8 n9 n2 l fun n16 n17 n18 =>
              (cond ((decide (((0 : Int) ≤ n16))) && (decide ((n16 < (3 : Int)))))
              (elemK [(-(1 : Int)), (4294967296 : Int), (77 : Int)] (Int.toNat n16) fun x4 =>
                (cond (decide (((0 : Int) < (((List.length l1) : Nat) : Int))))
                (elemK l1 0 fun x5 =>
                  (cond (Nat.blt 0 (List.length l1))
                  (k b1 s n17 n18 (Go.Eng.nset l1 0 (Go.Sa.KeySlot.mk x4 (Go.Sa.KeySlot.fKey x5) (Go.Sa.KeySlot.fTag x5))))
                  none))
                none))
              none))
            (cond (n7 == (5 : Int))
              (cond (decide (((0 : Int) < (((List.length l1) : Nat) : Int))))
                (elemK l1 0 fun x6 =>
                  (cond (decide (((0 : Int) < (((List.length l1) : Nat) : Int))))
                  (elemK l1 0 fun x7 =>
                    (cond (decide (((0 : Int) < (((List.length l1) : Nat) : Int))))
                    (elemK l1 0 fun x8 =>
                      (cond (Go.Eng.roomOk ((List.length l1) + (List.length [(Go.Sa.KeySlot.mk (Go.Sa.KeySlot.fSalt x6) (Go.Sa.KeySlot.fKey x6) (Go.Sa.KeySlot.fTag x6)), (Go.Sa.KeySlot.mk (Go.Sa.KeySlot.fSalt x7) (Go.Sa.KeySlot.fKey x7) (Go.Sa.KeySlot.fTag x7)), (Go.Sa.KeySlot.mk (Go.Sa.KeySlot.fSalt x8) (Go.Sa.KeySlot.fKey x8) (Go.Sa.KeySlot.fTag x8))])) 40)
                      (k (cond (Nat.beq (List.length [(Go.Sa.KeySlot.mk (Go.Sa.KeySlot.fSalt x6) (Go.Sa.KeySlot.fKey x6) (Go.Sa.KeySlot.fTag x6)), (Go.Sa.KeySlot.mk (Go.Sa.KeySlot.fSalt x7) (Go.Sa.KeySlot.fKey x7) (Go.Sa.KeySlot.fTag x7)), (Go.Sa.KeySlot.mk (Go.Sa.KeySlot.fSalt x8) (Go.Sa.KeySlot.fKey x8) (Go.Sa.KeySlot.fTag x8))]) 0) b1 Bool.false) s n8 n9 (l1 ++ [(Go.Sa.KeySlot.mk (Go.Sa.KeySlot.fSalt x6) (Go.Sa.KeySlot.fKey x6) (Go.Sa.KeySlot.fTag x6)), (Go.Sa.KeySlot.mk (Go.Sa.KeySlot.fSalt x7) (Go.Sa.KeySlot.fKey x7) (Go.Sa.KeySlot.fTag x7)), (Go.Sa.KeySlot.mk (Go.Sa.KeySlot.fSalt x8) (Go.Sa.KeySlot.fKey x8) (Go.Sa.KeySlot.fTag x8))]))
                      none))
                    none))
                  none))
                none)
              (k b1 s n8 n9 l1)))))))))))
def ga_g_spec_l01Src_anyVolume_Wr (N : Nat) (G_spec_l01Src_spoil_Wr : ∀ {R : Type} (s : ByteArray) (b : Bool) (n : Int) (n1 : Int) (n2 : Int) (l : List Int) (k : ByteArray → Int → Int → Option R), Option R) (G_spec_l01Src_n_Wr : ∀ {R : Type} (n : Int) (b : Bool) (n1 : Int) (n2 : Int) (n3 : Int) (l : List Int) (k : Int → Int → Int → Option R), Option R) (G_spec_l01Src_one_Wr : ∀ {R : Type} (n : Int) (b : Bool) (n1 : Int) (n2 : Int) (n3 : Int) (l : List Int) (k : Bool → Int → Int → Option R), Option R) (G_spec_l01Src_volume_Wr : ∀ {R : Type} (b : Bool) (n : Int) (n1 : Int) (n2 : Int) (l : List Int) (k : Bool → ByteArray → Int → Int → (List Go.Sa.KeySlot) → Option R), Option R) {R : Type} (b : Bool) (n : Int) (n1 : Int) (n2 : Int) (l : List Int) (k : Bool → ByteArray → Int → Int → (List Go.Sa.KeySlot) → Option R) : Option R :=
  (G_spec_l01Src_volume_Wr b n n1 n2 l fun b1 s n3 n4 l1 =>
  (G_spec_l01Src_one_Wr (4 : Int) b n3 n4 n2 l fun b2 n5 n6 =>
  (cond (!b2)
  (k b1 s n5 n6 l1)
  (G_spec_l01Src_n_Wr (6 : Int) b n5 n6 n2 l fun n7 n8 n9 =>
    (cond (n7 == (0 : Int))
    (k Bool.false s n8 n9 [])
    (cond (n7 == (1 : Int))
      (G_spec_l01Src_spoil_Wr s b n8 n9 n2 l fun s1 n10 n11 =>
        (k b1 s1 n10 n11 l1))
      (cond (n7 == (2 : Int))
        (cond (decide (((0 : Int) < (((List.length l1) : Nat) : Int))))
          (elemK l1 0 fun x =>
            (G_spec_l01Src_spoil_Wr (Go.Sa.KeySlot.fKey x) b n8 n9 n2 l fun s2 n12 n13 =>
            (cond (decide (((0 : Int) < (((List.length l1) : Nat) : Int))))
            (elemK l1 0 fun x1 =>
              (cond (Nat.blt 0 (List.length l1))
              (k b1 s n12 n13 (Go.Eng.nset l1 0 (Go.Sa.KeySlot.mk (Go.Sa.KeySlot.fSalt x1) s2 (Go.Sa.KeySlot.fTag x1))))
              none))
            none)))
          none)
        (cond (n7 == (3 : Int))
          (cond (decide (((0 : Int) < (((List.length l1) : Nat) : Int))))
            (elemK l1 0 fun x2 =>
              (G_spec_l01Src_spoil_Wr (Go.Sa.KeySlot.fTag x2) b n8 n9 n2 l fun s3 n14 n15 =>
              (cond (decide (((0 : Int) < (((List.length l1) : Nat) : Int))))
              (elemK l1 0 fun x3 =>
                (cond (Nat.blt 0 (List.length l1))
                (k b1 s n14 n15 (Go.Eng.nset l1 0 (Go.Sa.KeySlot.mk (Go.Sa.KeySlot.fSalt x3) (Go.Sa.KeySlot.fKey x3) s3)))
                none))
              none)))
            none)
          (cond (n7 == (4 : Int))
            (G_spec_l01Src_n_Wr (3 : Int) b n8 n9 n2 l fun n16 n17 n18 =>
              (cond ((decide (((0 : Int) ≤ n16))) && (decide ((n16 < (3 : Int)))))
              (elemK [(-(1 : Int)), (4294967296 : Int), (77 : Int)] (Int.toNat n16) fun x4 =>
                (cond (decide (((0 : Int) < (((List.length l1) : Nat) : Int))))
                (elemK l1 0 fun x5 =>
                  (cond (Nat.blt 0 (List.length l1))
                  (k b1 s n17 n18 (Go.Eng.nset l1 0 (Go.Sa.KeySlot.mk x4 (Go.Sa.KeySlot.fKey x5) (Go.Sa.KeySlot.fTag x5))))
                  none))
                none))
              none))
            (cond (n7 == (5 : Int))
              (cond (decide (((0 : Int) < (((List.length l1) : Nat) : Int))))
                (elemK l1 0 fun x6 =>
                  (cond (decide (((0 : Int) < (((List.length l1) : Nat) : Int))))
                  (elemK l1 0 fun x7 =>
                    (cond (decide (((0 : Int) < (((List.length l1) : Nat) : Int))))
                    (elemK l1 0 fun x8 =>
                      (cond (Go.Eng.roomOk ((List.length l1) + (List.length [(Go.Sa.KeySlot.mk (Go.Sa.KeySlot.fSalt x6) (Go.Sa.KeySlot.fKey x6) (Go.Sa.KeySlot.fTag x6)), (Go.Sa.KeySlot.mk (Go.Sa.KeySlot.fSalt x7) (Go.Sa.KeySlot.fKey x7) (Go.Sa.KeySlot.fTag x7)), (Go.Sa.KeySlot.mk (Go.Sa.KeySlot.fSalt x8) (Go.Sa.KeySlot.fKey x8) (Go.Sa.KeySlot.fTag x8))])) 40)
                      (k (cond (Nat.beq (List.length [(Go.Sa.KeySlot.mk (Go.Sa.KeySlot.fSalt x6) (Go.Sa.KeySlot.fKey x6) (Go.Sa.KeySlot.fTag x6)), (Go.Sa.KeySlot.mk (Go.Sa.KeySlot.fSalt x7) (Go.Sa.KeySlot.fKey x7) (Go.Sa.KeySlot.fTag x7)), (Go.Sa.KeySlot.mk (Go.Sa.KeySlot.fSalt x8) (Go.Sa.KeySlot.fKey x8) (Go.Sa.KeySlot.fTag x8))]) 0) b1 Bool.false) s n8 n9 (l1 ++ [(Go.Sa.KeySlot.mk (Go.Sa.KeySlot.fSalt x6) (Go.Sa.KeySlot.fKey x6) (Go.Sa.KeySlot.fTag x6)), (Go.Sa.KeySlot.mk (Go.Sa.KeySlot.fSalt x7) (Go.Sa.KeySlot.fKey x7) (Go.Sa.KeySlot.fTag x7)), (Go.Sa.KeySlot.mk (Go.Sa.KeySlot.fSalt x8) (Go.Sa.KeySlot.fKey x8) (Go.Sa.KeySlot.fTag x8))]))
                      none))
                    none))
                  none))
                none)
              (k b1 s n8 n9 l1)))))))))))
theorem ea_e_spec_l01Src_anyVolume_Wr (N : Nat) (G_spec_l01Src_spoil_Wr : ∀ {R : Type} (s : ByteArray) (b : Bool) (n : Int) (n1 : Int) (n2 : Int) (l : List Int) (k : ByteArray → Int → Int → Option R), Option R) (G_spec_l01Src_n_Wr : ∀ {R : Type} (n : Int) (b : Bool) (n1 : Int) (n2 : Int) (n3 : Int) (l : List Int) (k : Int → Int → Int → Option R), Option R) (G_spec_l01Src_one_Wr : ∀ {R : Type} (n : Int) (b : Bool) (n1 : Int) (n2 : Int) (n3 : Int) (l : List Int) (k : Bool → Int → Int → Option R), Option R) (G_spec_l01Src_volume_Wr : ∀ {R : Type} (b : Bool) (n : Int) (n1 : Int) (n2 : Int) (l : List Int) (k : Bool → ByteArray → Int → Int → (List Go.Sa.KeySlot) → Option R), Option R) {R : Type} (b : Bool) (n : Int) (n1 : Int) (n2 : Int) (l : List Int) (K : AV → Hp E → Option R) :
    runFnI (E := E) (OA_spec_l01Src_anyVolume_Wr N G_spec_l01Src_spoil_Wr G_spec_l01Src_n_Wr G_spec_l01Src_one_Wr G_spec_l01Src_volume_Wr) (noIt) sl_spec_l01Src_anyVolume_Wr J_spec_l01Src_anyVolume_Wr Go.Proofs.Try.f100 [(Go.Eng.AV.sc (Go.Eng.SV.ptr 0 0 0))] [(Option.some (Go.Eng.HE.mk Bool.false (Go.Eng.HB.exp Option.none [(Go.Eng.SV.slc 1 Option.none b), (Go.Eng.SV.int Go.IntKind.i64 n), (Go.Eng.SV.int Go.IntKind.u64 n1), (Go.Eng.SV.int Go.IntKind.i64 n2)]))), (Option.some (Go.Eng.HE.mk Bool.true (Go.Eng.HB.rows (Go.Sa.B.u8 l))))] K =
      ga_g_spec_l01Src_anyVolume_Wr N G_spec_l01Src_spoil_Wr G_spec_l01Src_n_Wr G_spec_l01Src_one_Wr G_spec_l01Src_volume_Wr b n n1 n2 l (fun b3 s4 n19 n20 l2 => K (Go.Eng.AV.agg [(Go.Eng.SV.slc 2 Option.none b3), (Go.Eng.SV.str s4)]) [(Option.some (Go.Eng.HE.mk Bool.false (Go.Eng.HB.exp Option.none [(Go.Eng.SV.slc 1 Option.none b), (Go.Eng.SV.int Go.IntKind.i64 n19), (Go.Eng.SV.int Go.IntKind.u64 n20), (Go.Eng.SV.int Go.IntKind.i64 n2)]))), (Option.some (Go.Eng.HE.mk Bool.true (Go.Eng.HB.rows (Go.Sa.B.u8 l)))), (Option.some (Go.Eng.HE.mk Bool.false (Go.Eng.HB.rows (Go.Sa.B.iKeySlot l2))))]) := by kernel_rfl
theorem e_spec_l01Src_anyVolume_Wr (N : Nat) {R : Type} (b : Bool) (n : Int) (n1 : Int) (n2 : Int) (l : List Int) (K : AV → Hp E → Option R) :
    runFnI (E := E) (O_spec_l01Src_anyVolume_Wr N) (noIt) sl_spec_l01Src_anyVolume_Wr J_spec_l01Src_anyVolume_Wr Go.Proofs.Try.f100 [(Go.Eng.AV.sc (Go.Eng.SV.ptr 0 0 0))] [(Option.some (Go.Eng.HE.mk Bool.false (Go.Eng.HB.exp Option.none [(Go.Eng.SV.slc 1 Option.none b), (Go.Eng.SV.int Go.IntKind.i64 n), (Go.Eng.SV.int Go.IntKind.u64 n1), (Go.Eng.SV.int Go.IntKind.i64 n2)]))), (Option.some (Go.Eng.HE.mk Bool.true (Go.Eng.HB.rows (Go.Sa.B.u8 l))))] K =
      g_spec_l01Src_anyVolume_Wr N b n n1 n2 l (fun b3 s4 n19 n20 l2 => K (Go.Eng.AV.agg [(Go.Eng.SV.slc 2 Option.none b3), (Go.Eng.SV.str s4)]) [(Option.some (Go.Eng.HE.mk Bool.false (Go.Eng.HB.exp Option.none [(Go.Eng.SV.slc 1 Option.none b), (Go.Eng.SV.int Go.IntKind.i64 n19), (Go.Eng.SV.int Go.IntKind.u64 n20), (Go.Eng.SV.int Go.IntKind.i64 n2)]))), (Option.some (Go.Eng.HE.mk Bool.true (Go.Eng.HB.rows (Go.Sa.B.u8 l)))), (Option.some (Go.Eng.HE.mk Bool.false (Go.Eng.HB.rows (Go.Sa.B.iKeySlot l2))))]) := castPr (by kernel_rfl) (ea_e_spec_l01Src_anyVolume_Wr N (g_spec_l01Src_spoil_Wr N) (g_spec_l01Src_n_Wr N) (g_spec_l01Src_one_Wr N) (g_spec_l01Src_volume_Wr N) b n n1 n2 l K)
def o_spec_l01Src_anyVolume_Wr (N : Nat) {R : Type} (args : List AV) (H : Hp E) (K : AV → Hp E → Option R) : Option R :=
  match args, H with
  | [(Go.Eng.AV.sc (Go.Eng.SV.ptr 0 0 0))], [(Option.some (Go.Eng.HE.mk Bool.false (Go.Eng.HB.exp Option.none [(Go.Eng.SV.slc 1 Option.none b), (Go.Eng.SV.int Go.IntKind.i64 n), (Go.Eng.SV.int Go.IntKind.u64 n1), (Go.Eng.SV.int Go.IntKind.i64 n2)]))), (Option.some (Go.Eng.HE.mk Bool.true (Go.Eng.HB.rows (Go.Sa.B.u8 l))))] => g_spec_l01Src_anyVolume_Wr N b n n1 n2 l (fun b3 s4 n19 n20 l2 => K (Go.Eng.AV.agg [(Go.Eng.SV.slc 2 Option.none b3), (Go.Eng.SV.str s4)]) [(Option.some (Go.Eng.HE.mk Bool.false (Go.Eng.HB.exp Option.none [(Go.Eng.SV.slc 1 Option.none b), (Go.Eng.SV.int Go.IntKind.i64 n19), (Go.Eng.SV.int Go.IntKind.u64 n20), (Go.Eng.SV.int Go.IntKind.i64 n2)]))), (Option.some (Go.Eng.HE.mk Bool.true (Go.Eng.HB.rows (Go.Sa.B.u8 l)))), (Option.some (Go.Eng.HE.mk Bool.false (Go.Eng.HB.rows (Go.Sa.B.iKeySlot l2))))])
  | _, _ => none
theorem o_spec_l01Src_anyVolume_Wr_ok (N : Nat) : FnOk E 100 (o_spec_l01Src_anyVolume_Wr N) := by
  intro R args H K r h
  unfold o_spec_l01Src_anyVolume_Wr at h
  dsimp only at h
  split at h
  · exact fnB_ok (ids := []) (top := []) ok (O_spec_l01Src_anyVolume_Wr_ok N) (jn_ok _ _ _) Go.Proofs.Try.func100 (by kernel_rfl) (IT := noIt) (sl := sl_spec_l01Src_anyVolume_Wr) (J := J_spec_l01Src_anyVolume_Wr) (K := K) (H := [(Option.some (Go.Eng.HE.mk Bool.false (Go.Eng.HB.exp Option.none [(Go.Eng.SV.slc 1 Option.none _), (Go.Eng.SV.int Go.IntKind.i64 _), (Go.Eng.SV.int Go.IntKind.u64 _), (Go.Eng.SV.int Go.IntKind.i64 _)]))), (Option.some (Go.Eng.HE.mk Bool.true (Go.Eng.HB.rows (Go.Sa.B.u8 _))))]) (noIt_ok) (by kernel_rfl) rfl ((e_spec_l01Src_anyVolume_Wr N _ _ _ _ _ K).trans h)
  · cases h
/-! ### loop.example/g00038/spec.DrawOpenVolume -/
abbrev sl_spec_DrawOpenVolume_r : SlotT := []
abbrev J_spec_DrawOpenVolume_r : JT := jn [] [] []
noncomputable def O_spec_DrawOpenVolume_r (N : Nat) : Orc E := addFn 99 (o_spec_l01Src_pass_Wr N) (addFn 100 (o_spec_l01Src_anyVolume_Wr N) (addFn 61 (o_spec_l01Source_r N) (noFn)))
def pa_spec_DrawOpenVolume_r__o_spec_l01Src_pass_Wr (N : Nat) (G_spec_l01Src_pass_Wr : ∀ {R : Type} (b : Bool) (n : Int) (n1 : Int) (n2 : Int) (l : List Int) (k : ByteArray → Int → Int → Option R), Option R) (G_spec_l01Src_anyVolume_Wr : ∀ {R : Type} (b : Bool) (n : Int) (n1 : Int) (n2 : Int) (l : List Int) (k : Bool → ByteArray → Int → Int → (List Go.Sa.KeySlot) → Option R), Option R) (G_spec_l01Source_r : ∀ {R : Type} (b : Bool) (l : List Int) (k : Int → Int → Option R), Option R) {R : Type} (args : List AV) (H : Hp E) (K : AV → Hp E → Option R) : Option R :=
  match args, H with
  | [(Go.Eng.AV.sc (Go.Eng.SV.ptr 0 0 0))], [(Option.some (Go.Eng.HE.mk Bool.false (Go.Eng.HB.exp Option.none [(Go.Eng.SV.slc 1 Option.none b), (Go.Eng.SV.int Go.IntKind.i64 n), (Go.Eng.SV.int Go.IntKind.u64 n1), (Go.Eng.SV.int Go.IntKind.i64 n2)]))), (Option.some (Go.Eng.HE.mk Bool.true (Go.Eng.HB.rows (Go.Sa.B.u8 l))))] => G_spec_l01Src_pass_Wr b n n1 n2 l (fun s1 n11 n12 => K (Go.Eng.AV.sc (Go.Eng.SV.str s1)) [(Option.some (Go.Eng.HE.mk Bool.false (Go.Eng.HB.exp Option.none [(Go.Eng.SV.slc 1 Option.none b), (Go.Eng.SV.int Go.IntKind.i64 n11), (Go.Eng.SV.int Go.IntKind.u64 n12), (Go.Eng.SV.int Go.IntKind.i64 n2)]))), (Option.some (Go.Eng.HE.mk Bool.true (Go.Eng.HB.rows (Go.Sa.B.u8 l))))])
  | _, _ => none
def pa_spec_DrawOpenVolume_r__o_spec_l01Src_anyVolume_Wr (N : Nat) (G_spec_l01Src_pass_Wr : ∀ {R : Type} (b : Bool) (n : Int) (n1 : Int) (n2 : Int) (l : List Int) (k : ByteArray → Int → Int → Option R), Option R) (G_spec_l01Src_anyVolume_Wr : ∀ {R : Type} (b : Bool) (n : Int) (n1 : Int) (n2 : Int) (l : List Int) (k : Bool → ByteArray → Int → Int → (List Go.Sa.KeySlot) → Option R), Option R) (G_spec_l01Source_r : ∀ {R : Type} (b : Bool) (l : List Int) (k : Int → Int → Option R), Option R) {R : Type} (args : List AV) (H : Hp E) (K : AV → Hp E → Option R) : Option R :=
  match args, H with
  | [(Go.Eng.AV.sc (Go.Eng.SV.ptr 0 0 0))], [(Option.some (Go.Eng.HE.mk Bool.false (Go.Eng.HB.exp Option.none [(Go.Eng.SV.slc 1 Option.none b), (Go.Eng.SV.int Go.IntKind.i64 n), (Go.Eng.SV.int Go.IntKind.u64 n1), (Go.Eng.SV.int Go.IntKind.i64 n2)]))), (Option.some (Go.Eng.HE.mk Bool.true (Go.Eng.HB.rows (Go.Sa.B.u8 l))))] => G_spec_l01Src_anyVolume_Wr b n n1 n2 l (fun b3 s4 n19 n20 l2 => K (Go.Eng.AV.agg [(Go.Eng.SV.slc 2 Option.none b3), (Go.Eng.SV.str s4)]) [(Option.some (Go.Eng.HE.mk Bool.false (Go.Eng.HB.exp Option.none [(Go.Eng.SV.slc 1 Option.none b), (Go.Eng.SV.int Go.IntKind.i64 n19), (Go.Eng.SV.int Go.IntKind.u64 n20), (Go.Eng.SV.int Go.IntKind.i64 n2)]))), (Option.some (Go.Eng.HE.mk Bool.true (Go.Eng.HB.rows (Go.Sa.B.u8 l)))), (Option.some (Go.Eng.HE.mk Bool.false (Go.Eng.HB.rows (Go.Sa.B.iKeySlot l2))))])
  | _, _ => none
def pa_spec_DrawOpenVolume_r__o_spec_l01Source_r (N : Nat) (G_spec_l01Src_pass_Wr : ∀ {R : Type} (b : Bool) (n : Int) (n1 : Int) (n2 : Int) (l : List Int) (k : ByteArray → Int → Int → Option R), Option R) (G_spec_l01Src_anyVolume_Wr : ∀ {R : Type} (b : Bool) (n : Int) (n1 : Int) (n2 : Int) (l : List Int) (k : Bool → ByteArray → Int → Int → (List Go.Sa.KeySlot) → Option R), Option R) (G_spec_l01Source_r : ∀ {R : Type} (b : Bool) (l : List Int) (k : Int → Int → Option R), Option R) {R : Type} (args : List AV) (H : Hp E) (K : AV → Hp E → Option R) : Option R :=
  match args, H with
  | [(Go.Eng.AV.sc (Go.Eng.SV.slc 0 Option.none b))], [(Option.some (Go.Eng.HE.mk Bool.true (Go.Eng.HB.rows (Go.Sa.B.u8 l))))] => G_spec_l01Source_r b l (fun n5 n6 => K (Go.Eng.AV.sc (Go.Eng.SV.ptr 1 0 0)) [(Option.some (Go.Eng.HE.mk Bool.true (Go.Eng.HB.rows (Go.Sa.B.u8 l)))), (Option.some (Go.Eng.HE.mk Bool.false (Go.Eng.HB.exp Option.none [(Go.Eng.SV.slc 0 Option.none b), (Go.Eng.SV.int Go.IntKind.i64 (0 : Int)), (Go.Eng.SV.int Go.IntKind.u64 n5), (Go.Eng.SV.int Go.IntKind.i64 n6)])))])
  | _, _ => none
noncomputable def OA_spec_DrawOpenVolume_r (N : Nat) (G_spec_l01Src_pass_Wr : ∀ {R : Type} (b : Bool) (n : Int) (n1 : Int) (n2 : Int) (l : List Int) (k : ByteArray → Int → Int → Option R), Option R) (G_spec_l01Src_anyVolume_Wr : ∀ {R : Type} (b : Bool) (n : Int) (n1 : Int) (n2 : Int) (l : List Int) (k : Bool → ByteArray → Int → Int → (List Go.Sa.KeySlot) → Option R), Option R) (G_spec_l01Source_r : ∀ {R : Type} (b : Bool) (l : List Int) (k : Int → Int → Option R), Option R) : Orc E := addFn 99 (pa_spec_DrawOpenVolume_r__o_spec_l01Src_pass_Wr N G_spec_l01Src_pass_Wr G_spec_l01Src_anyVolume_Wr G_spec_l01Source_r) (addFn 100 (pa_spec_DrawOpenVolume_r__o_spec_l01Src_anyVolume_Wr N G_spec_l01Src_pass_Wr G_spec_l01Src_anyVolume_Wr G_spec_l01Source_r) (addFn 61 (pa_spec_DrawOpenVolume_r__o_spec_l01Source_r N G_spec_l01Src_pass_Wr G_spec_l01Src_anyVolume_Wr G_spec_l01Source_r) (noFn)))
theorem O_spec_DrawOpenVolume_r_ok (N : Nat) : OrcOk (O_spec_DrawOpenVolume_r N) := addFn_ok (o_spec_l01Src_pass_Wr_ok N) (addFn_ok (o_spec_l01Src_anyVolume_Wr_ok N) (addFn_ok (o_spec_l01Source_r_ok N) (noFn_ok)))
def g_spec_DrawOpenVolume_r (N : Nat) {R : Type} (b : Bool) (l : List Int) (k : Bool → ByteArray → ByteArray → (List Go.Sa.KeySlot) → Option R) : Option R :=
  (g_spec_l01Source_r N b l fun n n1 =>
  (g_spec_l01Src_anyVolume_Wr N b (0 : Int) n n1 l fun b1 s n2 n3 l1 =>
  (g_spec_l01Src_pass_Wr N b n2 n3 n1 l fun s1 n4 n5 =>
  (k b1 s s1 l1))))
def ga_g_spec_DrawOpenVolume_r (N : Nat) (G_spec_l01Src_pass_Wr : ∀ {R : Type} (b : Bool) (n : Int) (n1 : Int) (n2 : Int) (l : List Int) (k : ByteArray → Int → Int → Option R), Option R) (G_spec_l01Src_anyVolume_Wr : ∀ {R : Type} (b : Bool) (n : Int) (n1 : Int) (n2 : Int) (l : List Int) (k : Bool → ByteArray → Int → Int → (List Go.Sa.KeySlot) → Option R), Option R) (G_spec_l01Source_r : ∀ {R : Type} (b : Bool) (l : List Int) (k : Int → Int → Option R), Option R) {R : Type} (b : Bool) (l : List Int) (k : Bool → ByteArray → ByteArray → (List Go.Sa.KeySlot) → Option R) : Option R :=
  (G_spec_l01Source_r b l fun n n1 =>
  (G_spec_l01Src_anyVolume_Wr b (0 : Int) n n1 l fun b1 s n2 n3 l1 =>
  (G_spec_l01Src_pass_Wr b n2 n3 n1 l fun s1 n4 n5 =>
  (k b1 s s1 l1))))
theorem ea_e_spec_DrawOpenVolume_r (N : Nat) (G_spec_l01Src_pass_Wr : ∀ {R : Type} (b : Bool) (n : Int) (n1 : Int) (n2 : Int) (l : List Int) (k : ByteArray → Int → Int → Option R), Option R) (G_spec_l01Src_anyVolume_Wr : ∀ {R : Type} (b : Bool) (n : Int) (n1 : Int) (n2 : Int) (l : List Int) (k : Bool → ByteArray → Int → Int → (List Go.Sa.KeySlot) → Option R), Option R) (G_spec_l01Source_r : ∀ {R : Type} (b : Bool) (l : List Int) (k : Int → Int → Option R), Option R) {R : Type} (b : Bool) (l : List Int) (K : AV → Hp E → Option R) :
    runFnI (E := E) (OA_spec_DrawOpenVolume_r N G_spec_l01Src_pass_Wr G_spec_l01Src_anyVolume_Wr G_spec_l01Source_r) (noIt) sl_spec_DrawOpenVolume_r J_spec_DrawOpenVolume_r Go.Proofs.Try.f49 [(Go.Eng.AV.sc (Go.Eng.SV.slc 0 Option.none b))] [(Option.some (Go.Eng.HE.mk Bool.true (Go.Eng.HB.rows (Go.Sa.B.u8 l))))] K =
      ga_g_spec_DrawOpenVolume_r N G_spec_l01Src_pass_Wr G_spec_l01Src_anyVolume_Wr G_spec_l01Source_r b l (fun b2 s2 s3 l2 => K (Go.Eng.AV.tup [(Bool.true, [(Go.Eng.SV.slc 1 Option.none b2), (Go.Eng.SV.str s2)]), (Bool.false, [(Go.Eng.SV.str s3)])]) [(Option.some (Go.Eng.HE.mk Bool.true (Go.Eng.HB.rows (Go.Sa.B.u8 l)))), (Option.some (Go.Eng.HE.mk Bool.false (Go.Eng.HB.rows (Go.Sa.B.iKeySlot l2))))]) := by kernel_rfl
theorem e_spec_DrawOpenVolume_r (N : Nat) {R : Type} (b : Bool) (l : List Int) (K : AV → Hp E → Option R) :
    runFnI (E := E) (O_spec_DrawOpenVolume_r N) (noIt) sl_spec_DrawOpenVolume_r J_spec_DrawOpenVolume_r Go.Proofs.Try.f49 [(Go.Eng.AV.sc (Go.Eng.SV.slc 0 Option.none b))] [(Option.some (Go.Eng.HE.mk Bool.true (Go.Eng.HB.rows (Go.Sa.B.u8 l))))] K =
      g_spec_DrawOpenVolume_r N b l (fun b2 s2 s3 l2 => K (Go.Eng.AV.tup [(Bool.true, [(Go.Eng.SV.slc 1 Option.none b2), (Go.Eng.SV.str s2)]), (Bool.false, [(Go.Eng.SV.str s3)])]) [(Option.some (Go.Eng.HE.mk Bool.true (Go.Eng.HB.rows (Go.Sa.B.u8 l)))), (Option.some (Go.Eng.HE.mk Bool.false (Go.Eng.HB.rows (Go.Sa.B.iKeySlot l2))))]) := castPr (by kernel_rfl) (ea_e_spec_DrawOpenVolume_r N (g_spec_l01Src_pass_Wr N) (g_spec_l01Src_anyVolume_Wr N) (g_spec_l01Source_r N) b l K)
def o_spec_DrawOpenVolume_r (N : Nat) {R : Type} (args : List AV) (H : Hp E) (K : AV → Hp E → Option R) : Option R :=
  match args, H with
  | [(Go.Eng.AV.sc (Go.Eng.SV.slc 0 Option.none b))], [(Option.some (Go.Eng.HE.mk Bool.true (Go.Eng.HB.rows (Go.Sa.B.u8 l))))] => g_spec_DrawOpenVolume_r N b l (fun b2 s2 s3 l2 => K (Go.Eng.AV.tup [(Bool.true, [(Go.Eng.SV.slc 1 Option.none b2), (Go.Eng.SV.str s2)]), (Bool.false, [(Go.Eng.SV.str s3)])]) [(Option.some (Go.Eng.HE.mk Bool.true (Go.Eng.HB.rows (Go.Sa.B.u8 l)))), (Option.some (Go.Eng.HE.mk Bool.false (Go.Eng.HB.rows (Go.Sa.B.iKeySlot l2))))])
  | _, _ => none
theorem o_spec_DrawOpenVolume_r_ok (N : Nat) : FnOk E 49 (o_spec_DrawOpenVolume_r N) := by
  intro R args H K r h
  unfold o_spec_DrawOpenVolume_r at h
  dsimp only at h
  split at h
  · exact fnB_ok (ids := []) (top := []) ok (O_spec_DrawOpenVolume_r_ok N) (jn_ok _ _ _) Go.Proofs.Try.func49 (by kernel_rfl) (IT := noIt) (sl := sl_spec_DrawOpenVolume_r) (J := J_spec_DrawOpenVolume_r) (K := K) (H := [(Option.some (Go.Eng.HE.mk Bool.true (Go.Eng.HB.rows (Go.Sa.B.u8 _))))]) (noIt_ok) (by kernel_rfl) rfl ((e_spec_DrawOpenVolume_r N _ _ K).trans h)
  · cases h
/-! ### loop.example/g00038/impl.ylongKey$1 -/
abbrev sl_impl_ylongKey_1 : SlotT := []
abbrev J_impl_ylongKey_1 : JT := jn [] [] []
noncomputable def O_impl_ylongKey_1 (N : Nat) : Orc E := noFn
theorem O_impl_ylongKey_1_ok (N : Nat) : OrcOk (O_impl_ylongKey_1 N) := noFn_ok
def g_impl_ylongKey_1 (N : Nat) {R : Type} (s : ByteArray) (k : Bool → Option R) : Option R :=
  (k (decide (((((ByteArray.size s) : Nat) : Int) > (4096 : Int)))))
theorem e_impl_ylongKey_1 (N : Nat) {R : Type} (s : ByteArray) (K : AV → Hp E → Option R) :
    runFnI (E := E) (O_impl_ylongKey_1 N) (noIt) sl_impl_ylongKey_1 J_impl_ylongKey_1 Go.Proofs.Try.f105 [(Go.Eng.AV.sc (Go.Eng.SV.str s))] [] K =
      g_impl_ylongKey_1 N s (fun b => K (Go.Eng.AV.sc (Go.Eng.SV.bool b)) []) := by kernel_rfl
def o_impl_ylongKey_1 (N : Nat) {R : Type} (args : List AV) (H : Hp E) (K : AV → Hp E → Option R) : Option R :=
  match args, H with
  | [(Go.Eng.AV.sc (Go.Eng.SV.str s))], [] => g_impl_ylongKey_1 N s (fun b => K (Go.Eng.AV.sc (Go.Eng.SV.bool b)) [])
  | _, _ => none
theorem o_impl_ylongKey_1_ok (N : Nat) : FnOk E 105 (o_impl_ylongKey_1 N) := by
  intro R args H K r h
  unfold o_impl_ylongKey_1 at h
  dsimp only at h
  split at h
  · exact fnB_ok (ids := []) (top := []) ok (O_impl_ylongKey_1_ok N) (jn_ok _ _ _) Go.Proofs.Try.func105 (by kernel_rfl) (IT := noIt) (sl := sl_impl_ylongKey_1) (J := J_impl_ylongKey_1) (K := K) (H := []) (noIt_ok) (by kernel_rfl) rfl ((e_impl_ylongKey_1 N _ K).trans h)
  · cases h
/-! ### slices.IndexFunc[[]string,string] -/
abbrev sl_slices_IndexFunc_string_Fimpl_ylongKey_1_w : SlotT := [(0, ([0, 1, 7, 8], [4]))]
abbrev J_slices_IndexFunc_string_Fimpl_ylongKey_1_w : JT := jn [] [] []
noncomputable def O_slices_IndexFunc_string_Fimpl_ylongKey_1_w (N : Nat) : Orc E := addFn 105 (o_impl_ylongKey_1 N) (noFn)
theorem O_slices_IndexFunc_string_Fimpl_ylongKey_1_w_ok (N : Nat) : OrcOk (O_slices_IndexFunc_string_Fimpl_ylongKey_1_w N) := addFn_ok (o_impl_ylongKey_1_ok N) (noFn_ok)
def s_slices_IndexFunc_string_Fimpl_ylongKey_1_w_0 (N : Nat) {R : Type} (b1 : Bool) (n : Int) (l1 : List ByteArray) (n1 : Int) (ag : Int → Option R)  (kR : Int → Option R) (kN : Option R) : Option R :=
  (cond (decide ((n1 < n)))
  (cond ((decide (((0 : Int) ≤ n1))) && (decide ((n1 < (((List.length l1) : Nat) : Int)))))
    (elemK l1 (Int.toNat n1) fun x =>
      (g_impl_ylongKey_1 N x fun b2 =>
      (cond b2
      (kR n1)
      (ag (Go.IntKind.wrap Go.IntKind.i64 (n1 + (1 : Int)))))))
    none)
  kN)
def l_slices_IndexFunc_string_Fimpl_ylongKey_1_w_0 (N : Nat) {R : Type} (b1 : Bool) (n : Int) (l1 : List ByteArray) (kR : Int → Option R) (kN : Option R) : Nat → Int → Option R
  | 0, _ => none
  | f + 1, n1 => s_slices_IndexFunc_string_Fimpl_ylongKey_1_w_0 N b1 n l1 n1 (fun n1 => l_slices_IndexFunc_string_Fimpl_ylongKey_1_w_0 N b1 n l1 kR kN f n1)  kR kN
def c_slices_IndexFunc_string_Fimpl_ylongKey_1_w_0 (N : Nat) {R : Type} (b1 : Bool) (n : Int) (l1 : List ByteArray) (n1 : Int) (kR : Int → Option R) (kN : Option R) : Option R := l_slices_IndexFunc_string_Fimpl_ylongKey_1_w_0 N b1 n l1 kR kN N n1
theorem se_slices_IndexFunc_string_Fimpl_ylongKey_1_w_0 (N : Nat) {R : Type} (b1 : Bool) (n : Int) (l1 : List ByteArray) (n1 : Int) (AG : List (Option AV) → Hp E → Option R) (KL : Ex → List (Option AV) → Hp E → Option R) :
    iterStep (E := E) (O_slices_IndexFunc_string_Fimpl_ylongKey_1_w N) (fun {R} => LI (noIt) 1 19 sl_slices_IndexFunc_string_Fimpl_ylongKey_1_w (R := R)) J_slices_IndexFunc_string_Fimpl_ylongKey_1_w 1 19 0 [0, 1, 7, 8] [4] (body Go.Proofs.Try.f123 0) AG KL [(Option.some (Go.Eng.AV.sc (Go.Eng.SV.slc 0 Option.none b1))), (Option.some (Go.Eng.AV.sc (Go.Eng.SV.fn 105 []))), (Option.some (Go.Eng.AV.sc (Go.Eng.SV.int Go.IntKind.i64 n))), (Option.some (Go.Eng.AV.sc (Go.Eng.SV.int Go.IntKind.i64 n1)))] [(Option.some (Go.Eng.HE.mk Bool.false (Go.Eng.HB.rows (Go.Sa.B.str l1))))] =
      s_slices_IndexFunc_string_Fimpl_ylongKey_1_w_0 N b1 n l1 n1 (fun n1 => AG [(Option.some (Go.Eng.AV.sc (Go.Eng.SV.slc 0 Option.none b1))), (Option.some (Go.Eng.AV.sc (Go.Eng.SV.fn 105 []))), (Option.some (Go.Eng.AV.sc (Go.Eng.SV.int Go.IntKind.i64 n))), (Option.some (Go.Eng.AV.sc (Go.Eng.SV.int Go.IntKind.i64 n1)))] [(Option.some (Go.Eng.HE.mk Bool.false (Go.Eng.HB.rows (Go.Sa.B.str l1))))])  (fun n4 => KL Go.Eng.Ex.ret [(Option.some (Go.Eng.AV.sc (Go.Eng.SV.int Go.IntKind.i64 n4)))] [(Option.some (Go.Eng.HE.mk Bool.false (Go.Eng.HB.rows (Go.Sa.B.str l1))))]) (KL Go.Eng.Ex.normal [Option.none] [(Option.some (Go.Eng.HE.mk Bool.false (Go.Eng.HB.rows (Go.Sa.B.str l1))))]) := by kernel_rfl
theorem le_slices_IndexFunc_string_Fimpl_ylongKey_1_w_0 (N : Nat) {R : Type} (b1 : Bool) (n : Int) (l1 : List ByteArray) (KL : Ex → List (Option AV) → Hp E → Option R) : ∀ (f : Nat), ∀ (n1 : Int), iterK (E := E) (O_slices_IndexFunc_string_Fimpl_ylongKey_1_w N) (fun {R} => LI (noIt) 1 19 sl_slices_IndexFunc_string_Fimpl_ylongKey_1_w (R := R)) J_slices_IndexFunc_string_Fimpl_ylongKey_1_w 1 19 0 [0, 1, 7, 8] [4] (body Go.Proofs.Try.f123 0) f [(Option.some (Go.Eng.AV.sc (Go.Eng.SV.slc 0 Option.none b1))), (Option.some (Go.Eng.AV.sc (Go.Eng.SV.fn 105 []))), (Option.some (Go.Eng.AV.sc (Go.Eng.SV.int Go.IntKind.i64 n))), (Option.some (Go.Eng.AV.sc (Go.Eng.SV.int Go.IntKind.i64 n1)))] [(Option.some (Go.Eng.HE.mk Bool.false (Go.Eng.HB.rows (Go.Sa.B.str l1))))] KL = l_slices_IndexFunc_string_Fimpl_ylongKey_1_w_0 N b1 n l1 (fun n4 => KL Go.Eng.Ex.ret [(Option.some (Go.Eng.AV.sc (Go.Eng.SV.int Go.IntKind.i64 n4)))] [(Option.some (Go.Eng.HE.mk Bool.false (Go.Eng.HB.rows (Go.Sa.B.str l1))))]) (KL Go.Eng.Ex.normal [Option.none] [(Option.some (Go.Eng.HE.mk Bool.false (Go.Eng.HB.rows (Go.Sa.B.str l1))))]) f n1 := by
  intro f
  induction f with
  | zero => intros; rfl
  | succ f ih =>
    intro n1
    rw [iterK_succ, se_slices_IndexFunc_string_Fimpl_ylongKey_1_w_0]
    exact (congrArg (fun z0 => s_slices_IndexFunc_string_Fimpl_ylongKey_1_w_0 N b1 n l1 n1 z0 (fun n4 => KL Go.Eng.Ex.ret [(Option.some (Go.Eng.AV.sc (Go.Eng.SV.int Go.IntKind.i64 n4)))] [(Option.some (Go.Eng.HE.mk Bool.false (Go.Eng.HB.rows (Go.Sa.B.str l1))))]) (KL Go.Eng.Ex.normal [Option.none] [(Option.some (Go.Eng.HE.mk Bool.false (Go.Eng.HB.rows (Go.Sa.B.str l1))))])) (funext fun n1 => ih n1))
def i_slices_IndexFunc_string_Fimpl_ylongKey_1_w_0 (N : Nat) {R : Type} (vs : List (Option AV)) (H : Hp E) (KL : Ex → List (Option AV) → Hp E → Option R) : Option R :=
  match vs, H with
  | [(Option.some (Go.Eng.AV.sc (Go.Eng.SV.slc 0 Option.none b1))), (Option.some (Go.Eng.AV.sc (Go.Eng.SV.fn 105 []))), (Option.some (Go.Eng.AV.sc (Go.Eng.SV.int Go.IntKind.i64 n))), (Option.some (Go.Eng.AV.sc (Go.Eng.SV.int Go.IntKind.i64 n1)))], [(Option.some (Go.Eng.HE.mk Bool.false (Go.Eng.HB.rows (Go.Sa.B.str l1))))] => c_slices_IndexFunc_string_Fimpl_ylongKey_1_w_0 N b1 n l1 n1 (fun n5 => KL Go.Eng.Ex.ret [(Option.some (Go.Eng.AV.sc (Go.Eng.SV.int Go.IntKind.i64 n5)))] [(Option.some (Go.Eng.HE.mk Bool.false (Go.Eng.HB.rows (Go.Sa.B.str l1))))]) (KL Go.Eng.Ex.normal [Option.none] [(Option.some (Go.Eng.HE.mk Bool.false (Go.Eng.HB.rows (Go.Sa.B.str l1))))])
  | _, _ => none
noncomputable def IT_slices_IndexFunc_string_Fimpl_ylongKey_1_w_0 (N : Nat) : Its E := addIt 0 (i_slices_IndexFunc_string_Fimpl_ylongKey_1_w_0 N) (noIt)
theorem IT_slices_IndexFunc_string_Fimpl_ylongKey_1_w_0_ok (N : Nat) : ItOk (IT_slices_IndexFunc_string_Fimpl_ylongKey_1_w_0 N) 1 19 sl_slices_IndexFunc_string_Fimpl_ylongKey_1_w (lsB Go.Proofs.Try.f123 [0]) :=
  addItB_ok (inner := []) ok (O_slices_IndexFunc_string_Fimpl_ylongKey_1_w_ok N) (jn_ok _ _ _) (noIt_ok) rfl (by kernel_rfl) rfl fun vs H KL r h => by
    unfold i_slices_IndexFunc_string_Fimpl_ylongKey_1_w_0 at h
    split at h
    · exact ⟨_, (le_slices_IndexFunc_string_Fimpl_ylongKey_1_w_0 N _ _ _ KL N _).trans h⟩
    · cases h
def g_slices_IndexFunc_string_Fimpl_ylongKey_1_w (N : Nat) {R : Type} (b : Bool) (l : List ByteArray) (k : Int → Option R) : Option R :=
  (c_slices_IndexFunc_string_Fimpl_ylongKey_1_w_0 N b (((List.length l) : Nat) : Int) l (0 : Int) (fun n2 =>
  (k n2)) (
  (k (-(1 : Int)))))
theorem e_slices_IndexFunc_string_Fimpl_ylongKey_1_w (N : Nat) {R : Type} (b : Bool) (l : List ByteArray) (K : AV → Hp E → Option R) :
    runFnI (E := E) (O_slices_IndexFunc_string_Fimpl_ylongKey_1_w N) (IT_slices_IndexFunc_string_Fimpl_ylongKey_1_w_0 N) sl_slices_IndexFunc_string_Fimpl_ylongKey_1_w J_slices_IndexFunc_string_Fimpl_ylongKey_1_w Go.Proofs.Try.f123 [(Go.Eng.AV.sc (Go.Eng.SV.slc 0 Option.none b)), (Go.Eng.AV.sc (Go.Eng.SV.fn 105 []))] [(Option.some (Go.Eng.HE.mk Bool.false (Go.Eng.HB.rows (Go.Sa.B.str l))))] K =
      g_slices_IndexFunc_string_Fimpl_ylongKey_1_w N b l (fun n3 => K (Go.Eng.AV.sc (Go.Eng.SV.int Go.IntKind.i64 n3)) [(Option.some (Go.Eng.HE.mk Bool.false (Go.Eng.HB.rows (Go.Sa.B.str l))))]) := by kernel_rfl
def o_slices_IndexFunc_string_Fimpl_ylongKey_1_w (N : Nat) {R : Type} (args : List AV) (H : Hp E) (K : AV → Hp E → Option R) : Option R :=
  match args, H with
  | [(Go.Eng.AV.sc (Go.Eng.SV.slc 0 Option.none b)), (Go.Eng.AV.sc (Go.Eng.SV.fn 105 []))], [(Option.some (Go.Eng.HE.mk Bool.false (Go.Eng.HB.rows (Go.Sa.B.str l))))] => g_slices_IndexFunc_string_Fimpl_ylongKey_1_w N b l (fun n3 => K (Go.Eng.AV.sc (Go.Eng.SV.int Go.IntKind.i64 n3)) [(Option.some (Go.Eng.HE.mk Bool.false (Go.Eng.HB.rows (Go.Sa.B.str l))))])
  | _, _ => none
theorem o_slices_IndexFunc_string_Fimpl_ylongKey_1_w_ok (N : Nat) : FnOk E 123 (o_slices_IndexFunc_string_Fimpl_ylongKey_1_w N) := by
  intro R args H K r h
  unfold o_slices_IndexFunc_string_Fimpl_ylongKey_1_w at h
  dsimp only at h
  split at h
  · exact fnB_ok (ids := [0]) (top := [0]) ok (O_slices_IndexFunc_string_Fimpl_ylongKey_1_w_ok N) (jn_ok _ _ _) Go.Proofs.Try.func123 (by kernel_rfl) (IT := IT_slices_IndexFunc_string_Fimpl_ylongKey_1_w_0 N) (sl := sl_slices_IndexFunc_string_Fimpl_ylongKey_1_w) (J := J_slices_IndexFunc_string_Fimpl_ylongKey_1_w) (K := K) (H := [(Option.some (Go.Eng.HE.mk Bool.false (Go.Eng.HB.rows (Go.Sa.B.str _))))]) (IT_slices_IndexFunc_string_Fimpl_ylongKey_1_w_0_ok N) (by kernel_rfl) rfl ((e_slices_IndexFunc_string_Fimpl_ylongKey_1_w N _ _ K).trans h)
  · cases h
/-! ### slices.ContainsFunc[[]string,string] -/
abbrev sl_slices_ContainsFunc_string_Fimpl_ylongKey_1_w : SlotT := []
abbrev J_slices_ContainsFunc_string_Fimpl_ylongKey_1_w : JT := jn [] [] []
noncomputable def O_slices_ContainsFunc_string_Fimpl_ylongKey_1_w (N : Nat) : Orc E := addFn 123 (o_slices_IndexFunc_string_Fimpl_ylongKey_1_w N) (noFn)
theorem O_slices_ContainsFunc_string_Fimpl_ylongKey_1_w_ok (N : Nat) : OrcOk (O_slices_ContainsFunc_string_Fimpl_ylongKey_1_w N) := addFn_ok (o_slices_IndexFunc_string_Fimpl_ylongKey_1_w_ok N) (noFn_ok)
def g_slices_ContainsFunc_string_Fimpl_ylongKey_1_w (N : Nat) {R : Type} (b : Bool) (l : List ByteArray) (k : Bool → Option R) : Option R :=
  (g_slices_IndexFunc_string_Fimpl_ylongKey_1_w N b l fun n =>
  (k (decide ((n ≥ (0 : Int))))))
theorem e_slices_ContainsFunc_string_Fimpl_ylongKey_1_w (N : Nat) {R : Type} (b : Bool) (l : List ByteArray) (K : AV → Hp E → Option R) :
    runFnI (E := E) (O_slices_ContainsFunc_string_Fimpl_ylongKey_1_w N) (noIt) sl_slices_ContainsFunc_string_Fimpl_ylongKey_1_w J_slices_ContainsFunc_string_Fimpl_ylongKey_1_w Go.Proofs.Try.f104 [(Go.Eng.AV.sc (Go.Eng.SV.slc 0 Option.none b)), (Go.Eng.AV.sc (Go.Eng.SV.fn 105 []))] [(Option.some (Go.Eng.HE.mk Bool.false (Go.Eng.HB.rows (Go.Sa.B.str l))))] K =
      g_slices_ContainsFunc_string_Fimpl_ylongKey_1_w N b l (fun b1 => K (Go.Eng.AV.sc (Go.Eng.SV.bool b1)) [(Option.some (Go.Eng.HE.mk Bool.false (Go.Eng.HB.rows (Go.Sa.B.str l))))]) := by kernel_rfl
def o_slices_ContainsFunc_string_Fimpl_ylongKey_1_w (N : Nat) {R : Type} (args : List AV) (H : Hp E) (K : AV → Hp E → Option R) : Option R :=
  match args, H with
  | [(Go.Eng.AV.sc (Go.Eng.SV.slc 0 Option.none b)), (Go.Eng.AV.sc (Go.Eng.SV.fn 105 []))], [(Option.some (Go.Eng.HE.mk Bool.false (Go.Eng.HB.rows (Go.Sa.B.str l))))] => g_slices_ContainsFunc_string_Fimpl_ylongKey_1_w N b l (fun b1 => K (Go.Eng.AV.sc (Go.Eng.SV.bool b1)) [(Option.some (Go.Eng.HE.mk Bool.false (Go.Eng.HB.rows (Go.Sa.B.str l))))])
  | _, _ => none
theorem o_slices_ContainsFunc_string_Fimpl_ylongKey_1_w_ok (N : Nat) : FnOk E 104 (o_slices_ContainsFunc_string_Fimpl_ylongKey_1_w N) := by
  intro R args H K r h
  unfold o_slices_ContainsFunc_string_Fimpl_ylongKey_1_w at h
  dsimp only at h
  split at h
  · exact fnB_ok (ids := []) (top := []) ok (O_slices_ContainsFunc_string_Fimpl_ylongKey_1_w_ok N) (jn_ok _ _ _) Go.Proofs.Try.func104 (by kernel_rfl) (IT := noIt) (sl := sl_slices_ContainsFunc_string_Fimpl_ylongKey_1_w) (J := J_slices_ContainsFunc_string_Fimpl_ylongKey_1_w) (K := K) (H := [(Option.some (Go.Eng.HE.mk Bool.false (Go.Eng.HB.rows (Go.Sa.B.str _))))]) (noIt_ok) (by kernel_rfl) rfl ((e_slices_ContainsFunc_string_Fimpl_ylongKey_1_w N _ _ K).trans h)
  · cases h
/-! ### loop.example/g00038/impl.ylongKey -/
abbrev sl_impl_ylongKey_w : SlotT := []
abbrev J_impl_ylongKey_w : JT := jn [] [] []
noncomputable def O_impl_ylongKey_w (N : Nat) : Orc E := addFn 104 (o_slices_ContainsFunc_string_Fimpl_ylongKey_1_w N) (noFn)
theorem O_impl_ylongKey_w_ok (N : Nat) : OrcOk (O_impl_ylongKey_w N) := addFn_ok (o_slices_ContainsFunc_string_Fimpl_ylongKey_1_w_ok N) (noFn_ok)
def g_impl_ylongKey_w (N : Nat) {R : Type} (b : Bool) (l : List ByteArray) (k : Bool → Option R) : Option R :=
  (g_slices_ContainsFunc_string_Fimpl_ylongKey_1_w N b l fun b1 =>
  (k b1))
theorem e_impl_ylongKey_w (N : Nat) {R : Type} (b : Bool) (l : List ByteArray) (K : AV → Hp E → Option R) :
    runFnI (E := E) (O_impl_ylongKey_w N) (noIt) sl_impl_ylongKey_w J_impl_ylongKey_w Go.Proofs.Try.f57 [(Go.Eng.AV.sc (Go.Eng.SV.slc 0 Option.none b))] [(Option.some (Go.Eng.HE.mk Bool.false (Go.Eng.HB.rows (Go.Sa.B.str l))))] K =
      g_impl_ylongKey_w N b l (fun b2 => K (Go.Eng.AV.sc (Go.Eng.SV.bool b2)) [(Option.some (Go.Eng.HE.mk Bool.false (Go.Eng.HB.rows (Go.Sa.B.str l))))]) := by kernel_rfl
def o_impl_ylongKey_w (N : Nat) {R : Type} (args : List AV) (H : Hp E) (K : AV → Hp E → Option R) : Option R :=
  match args, H with
  | [(Go.Eng.AV.sc (Go.Eng.SV.slc 0 Option.none b))], [(Option.some (Go.Eng.HE.mk Bool.false (Go.Eng.HB.rows (Go.Sa.B.str l))))] => g_impl_ylongKey_w N b l (fun b2 => K (Go.Eng.AV.sc (Go.Eng.SV.bool b2)) [(Option.some (Go.Eng.HE.mk Bool.false (Go.Eng.HB.rows (Go.Sa.B.str l))))])
  | _, _ => none
theorem o_impl_ylongKey_w_ok (N : Nat) : FnOk E 57 (o_impl_ylongKey_w N) := by
  intro R args H K r h
  unfold o_impl_ylongKey_w at h
  dsimp only at h
  split at h
  · exact fnB_ok (ids := []) (top := []) ok (O_impl_ylongKey_w_ok N) (jn_ok _ _ _) Go.Proofs.Try.func57 (by kernel_rfl) (IT := noIt) (sl := sl_impl_ylongKey_w) (J := J_impl_ylongKey_w) (K := K) (H := [(Option.some (Go.Eng.HE.mk Bool.false (Go.Eng.HB.rows (Go.Sa.B.str _))))]) (noIt_ok) (by kernel_rfl) rfl ((e_impl_ylongKey_w N _ _ K).trans h)
  · cases h
/-! ### loop.example/g00038/impl.yisWord -/
abbrev sl_impl_yisWord : SlotT := []
abbrev J_impl_yisWord : JT := jn [(1, [(2, .b)])] [] []
noncomputable def O_impl_yisWord (N : Nat) : Orc E := noFn
theorem O_impl_yisWord_ok (N : Nat) : OrcOk (O_impl_yisWord N) := noFn_ok
def g_impl_yisWord (N : Nat) {R : Type} (n : Int) (k : Bool → Option R) : Option R :=
  (oK (cond (decide ((n ≥ (0 : Int))))
    (some (decide ((n < (4294967296 : Int)))))
    (some Bool.false)) fun j =>
  (k j))
theorem e_impl_yisWord (N : Nat) {R : Type} (n : Int) (K : AV → Hp E → Option R) :
    runFnI (E := E) (O_impl_yisWord N) (noIt) sl_impl_yisWord J_impl_yisWord Go.Proofs.Try.f80 [(Go.Eng.AV.sc (Go.Eng.SV.int Go.IntKind.i64 n))] [] K =
      g_impl_yisWord N n (fun b => K (Go.Eng.AV.sc (Go.Eng.SV.bool b)) []) := by kernel_rfl
def o_impl_yisWord (N : Nat) {R : Type} (args : List AV) (H : Hp E) (K : AV → Hp E → Option R) : Option R :=
  match args, H with
  | [(Go.Eng.AV.sc (Go.Eng.SV.int Go.IntKind.i64 n))], [] => g_impl_yisWord N n (fun b => K (Go.Eng.AV.sc (Go.Eng.SV.bool b)) [])
  | _, _ => none
theorem o_impl_yisWord_ok (N : Nat) : FnOk E 80 (o_impl_yisWord N) := by
  intro R args H K r h
  unfold o_impl_yisWord at h
  dsimp only at h
  split at h
  · exact fnB_ok (ids := []) (top := []) ok (O_impl_yisWord_ok N) (jn_ok _ _ _) Go.Proofs.Try.func80 (by kernel_rfl) (IT := noIt) (sl := sl_impl_yisWord) (J := J_impl_yisWord) (K := K) (H := []) (noIt_ok) (by kernel_rfl) rfl ((e_impl_yisWord N _ K).trans h)
  · cases h
/-! ### loop.example/g00038/impl.ybig -/
abbrev sl_impl_ybig_w : SlotT := [(0, ([5, 6, 7], [2]))]
abbrev J_impl_ybig_w : JT := jn [] [] []
noncomputable def O_impl_ybig_w (N : Nat) : Orc E := noFn
theorem O_impl_ybig_w_ok (N : Nat) : OrcOk (O_impl_ybig_w N) := noFn_ok
def s_impl_ybig_w_0 (N : Nat) {R : Type} (b1 : Bool) (n : Int) (l1 : List ByteArray) (n1 : Int) (ag : Int → Option R)  (kR : Option R) (kN : Option R) : Option R :=
  (cond (decide ((n1 < n)))
  (cond ((decide (((0 : Int) ≤ n1))) && (decide ((n1 < (((List.length l1) : Nat) : Int)))))
    (elemK l1 (Int.toNat n1) fun x =>
      (cond (decide (((((ByteArray.size x) : Nat) : Int) > (65536 : Int))))
      kR
      (ag (Go.IntKind.wrap Go.IntKind.i64 (n1 + (1 : Int))))))
    none)
  kN)
def l_impl_ybig_w_0 (N : Nat) {R : Type} (b1 : Bool) (n : Int) (l1 : List ByteArray) (kR : Option R) (kN : Option R) : Nat → Int → Option R
  | 0, _ => none
  | f + 1, n1 => s_impl_ybig_w_0 N b1 n l1 n1 (fun n1 => l_impl_ybig_w_0 N b1 n l1 kR kN f n1)  kR kN
def c_impl_ybig_w_0 (N : Nat) {R : Type} (b1 : Bool) (n : Int) (l1 : List ByteArray) (n1 : Int) (kR : Option R) (kN : Option R) : Option R := l_impl_ybig_w_0 N b1 n l1 kR kN N n1
theorem se_impl_ybig_w_0 (N : Nat) {R : Type} (b1 : Bool) (n : Int) (l1 : List ByteArray) (n1 : Int) (AG : List (Option AV) → Hp E → Option R) (KL : Ex → List (Option AV) → Hp E → Option R) :
    iterStep (E := E) (O_impl_ybig_w N) (fun {R} => LI (noIt) 1 15 sl_impl_ybig_w (R := R)) J_impl_ybig_w 1 15 0 [5, 6, 7] [2] (body Go.Proofs.Try.f92 0) AG KL [(Option.some (Go.Eng.AV.sc (Go.Eng.SV.slc 0 Option.none b1))), (Option.some (Go.Eng.AV.sc (Go.Eng.SV.int Go.IntKind.i64 n))), (Option.some (Go.Eng.AV.sc (Go.Eng.SV.int Go.IntKind.i64 n1)))] [(Option.some (Go.Eng.HE.mk Bool.false (Go.Eng.HB.rows (Go.Sa.B.str l1))))] =
      s_impl_ybig_w_0 N b1 n l1 n1 (fun n1 => AG [(Option.some (Go.Eng.AV.sc (Go.Eng.SV.slc 0 Option.none b1))), (Option.some (Go.Eng.AV.sc (Go.Eng.SV.int Go.IntKind.i64 n))), (Option.some (Go.Eng.AV.sc (Go.Eng.SV.int Go.IntKind.i64 n1)))] [(Option.some (Go.Eng.HE.mk Bool.false (Go.Eng.HB.rows (Go.Sa.B.str l1))))])  (KL Go.Eng.Ex.ret [(Option.some (Go.Eng.AV.sc (Go.Eng.SV.bool Bool.true)))] [(Option.some (Go.Eng.HE.mk Bool.false (Go.Eng.HB.rows (Go.Sa.B.str l1))))]) (KL Go.Eng.Ex.normal [Option.none] [(Option.some (Go.Eng.HE.mk Bool.false (Go.Eng.HB.rows (Go.Sa.B.str l1))))]) := by kernel_rfl
theorem le_impl_ybig_w_0 (N : Nat) {R : Type} (b1 : Bool) (n : Int) (l1 : List ByteArray) (KL : Ex → List (Option AV) → Hp E → Option R) : ∀ (f : Nat), ∀ (n1 : Int), iterK (E := E) (O_impl_ybig_w N) (fun {R} => LI (noIt) 1 15 sl_impl_ybig_w (R := R)) J_impl_ybig_w 1 15 0 [5, 6, 7] [2] (body Go.Proofs.Try.f92 0) f [(Option.some (Go.Eng.AV.sc (Go.Eng.SV.slc 0 Option.none b1))), (Option.some (Go.Eng.AV.sc (Go.Eng.SV.int Go.IntKind.i64 n))), (Option.some (Go.Eng.AV.sc (Go.Eng.SV.int Go.IntKind.i64 n1)))] [(Option.some (Go.Eng.HE.mk Bool.false (Go.Eng.HB.rows (Go.Sa.B.str l1))))] KL = l_impl_ybig_w_0 N b1 n l1 (KL Go.Eng.Ex.ret [(Option.some (Go.Eng.AV.sc (Go.Eng.SV.bool Bool.true)))] [(Option.some (Go.Eng.HE.mk Bool.false (Go.Eng.HB.rows (Go.Sa.B.str l1))))]) (KL Go.Eng.Ex.normal [Option.none] [(Option.some (Go.Eng.HE.mk Bool.false (Go.Eng.HB.rows (Go.Sa.B.str l1))))]) f n1 := by
  intro f
  induction f with
  | zero => intros; rfl
  | succ f ih =>
    intro n1
    rw [iterK_succ, se_impl_ybig_w_0]
    exact (congrArg (fun z0 => s_impl_ybig_w_0 N b1 n l1 n1 z0 (KL Go.Eng.Ex.ret [(Option.some (Go.Eng.AV.sc (Go.Eng.SV.bool Bool.true)))] [(Option.some (Go.Eng.HE.mk Bool.false (Go.Eng.HB.rows (Go.Sa.B.str l1))))]) (KL Go.Eng.Ex.normal [Option.none] [(Option.some (Go.Eng.HE.mk Bool.false (Go.Eng.HB.rows (Go.Sa.B.str l1))))])) (funext fun n1 => ih n1))
def i_impl_ybig_w_0 (N : Nat) {R : Type} (vs : List (Option AV)) (H : Hp E) (KL : Ex → List (Option AV) → Hp E → Option R) : Option R :=
  match vs, H with
  | [(Option.some (Go.Eng.AV.sc (Go.Eng.SV.slc 0 Option.none b1))), (Option.some (Go.Eng.AV.sc (Go.Eng.SV.int Go.IntKind.i64 n))), (Option.some (Go.Eng.AV.sc (Go.Eng.SV.int Go.IntKind.i64 n1)))], [(Option.some (Go.Eng.HE.mk Bool.false (Go.Eng.HB.rows (Go.Sa.B.str l1))))] => c_impl_ybig_w_0 N b1 n l1 n1 (KL Go.Eng.Ex.ret [(Option.some (Go.Eng.AV.sc (Go.Eng.SV.bool Bool.true)))] [(Option.some (Go.Eng.HE.mk Bool.false (Go.Eng.HB.rows (Go.Sa.B.str l1))))]) (KL Go.Eng.Ex.normal [Option.none] [(Option.some (Go.Eng.HE.mk Bool.false (Go.Eng.HB.rows (Go.Sa.B.str l1))))])
  | _, _ => none
noncomputable def IT_impl_ybig_w_0 (N : Nat) : Its E := addIt 0 (i_impl_ybig_w_0 N) (noIt)
theorem IT_impl_ybig_w_0_ok (N : Nat) : ItOk (IT_impl_ybig_w_0 N) 1 15 sl_impl_ybig_w (lsB Go.Proofs.Try.f92 [0]) :=
  addItB_ok (inner := []) ok (O_impl_ybig_w_ok N) (jn_ok _ _ _) (noIt_ok) rfl (by kernel_rfl) rfl fun vs H KL r h => by
    unfold i_impl_ybig_w_0 at h
    split at h
    · exact ⟨_, (le_impl_ybig_w_0 N _ _ _ KL N _).trans h⟩
    · cases h
def g_impl_ybig_w (N : Nat) {R : Type} (b : Bool) (l : List ByteArray) (k : Bool → Option R) : Option R :=
  (c_impl_ybig_w_0 N b (((List.length l) : Nat) : Int) l (0 : Int) (
  (k Bool.true)) (
  (k Bool.false)))
theorem e_impl_ybig_w (N : Nat) {R : Type} (b : Bool) (l : List ByteArray) (K : AV → Hp E → Option R) :
    runFnI (E := E) (O_impl_ybig_w N) (IT_impl_ybig_w_0 N) sl_impl_ybig_w J_impl_ybig_w Go.Proofs.Try.f92 [(Go.Eng.AV.sc (Go.Eng.SV.slc 0 Option.none b))] [(Option.some (Go.Eng.HE.mk Bool.false (Go.Eng.HB.rows (Go.Sa.B.str l))))] K =
      g_impl_ybig_w N b l (fun b2 => K (Go.Eng.AV.sc (Go.Eng.SV.bool b2)) [(Option.some (Go.Eng.HE.mk Bool.false (Go.Eng.HB.rows (Go.Sa.B.str l))))]) := by kernel_rfl
def o_impl_ybig_w (N : Nat) {R : Type} (args : List AV) (H : Hp E) (K : AV → Hp E → Option R) : Option R :=
  match args, H with
  | [(Go.Eng.AV.sc (Go.Eng.SV.slc 0 Option.none b))], [(Option.some (Go.Eng.HE.mk Bool.false (Go.Eng.HB.rows (Go.Sa.B.str l))))] => g_impl_ybig_w N b l (fun b2 => K (Go.Eng.AV.sc (Go.Eng.SV.bool b2)) [(Option.some (Go.Eng.HE.mk Bool.false (Go.Eng.HB.rows (Go.Sa.B.str l))))])
  | _, _ => none
theorem o_impl_ybig_w_ok (N : Nat) : FnOk E 92 (o_impl_ybig_w N) := by
  intro R args H K r h
  unfold o_impl_ybig_w at h
  dsimp only at h
  split at h
  · exact fnB_ok (ids := [0]) (top := [0]) ok (O_impl_ybig_w_ok N) (jn_ok _ _ _) Go.Proofs.Try.func92 (by kernel_rfl) (IT := IT_impl_ybig_w_0 N) (sl := sl_impl_ybig_w) (J := J_impl_ybig_w) (K := K) (H := [(Option.some (Go.Eng.HE.mk Bool.false (Go.Eng.HB.rows (Go.Sa.B.str _))))]) (IT_impl_ybig_w_0_ok N) (by kernel_rfl) rfl ((e_impl_ybig_w N _ _ K).trans h)
  · cases h
/-! ### loop.example/g00038/impl.PutWord -/
abbrev sl_impl_PutWord : SlotT := []
abbrev J_impl_PutWord : JT := jn [] [] []
noncomputable def O_impl_PutWord (N : Nat) : Orc E := noFn
theorem O_impl_PutWord_ok (N : Nat) : OrcOk (O_impl_PutWord N) := noFn_ok
def g_impl_PutWord (N : Nat) {R : Type} (n : Int) (k : ByteArray → Option R) : Option R :=
  (k (Go.Eng.toBytes (Go.Eng.seg [(Go.IntKind.wrap Go.IntKind.u8 (Go.IntKind.wrap Go.IntKind.u32 n)), (Go.IntKind.wrap Go.IntKind.u8 (Int.fdiv (Go.IntKind.wrap Go.IntKind.u32 n) (256 : Int))), (Go.IntKind.wrap Go.IntKind.u8 (Int.fdiv (Go.IntKind.wrap Go.IntKind.u32 n) (65536 : Int))), (Go.IntKind.wrap Go.IntKind.u8 (Int.fdiv (Go.IntKind.wrap Go.IntKind.u32 n) (16777216 : Int)))] 0 (List.length [(Go.IntKind.wrap Go.IntKind.u8 (Go.IntKind.wrap Go.IntKind.u32 n)), (Go.IntKind.wrap Go.IntKind.u8 (Int.fdiv (Go.IntKind.wrap Go.IntKind.u32 n) (256 : Int))), (Go.IntKind.wrap Go.IntKind.u8 (Int.fdiv (Go.IntKind.wrap Go.IntKind.u32 n) (65536 : Int))), (Go.IntKind.wrap Go.IntKind.u8 (Int.fdiv (Go.IntKind.wrap Go.IntKind.u32 n) (16777216 : Int)))]))))
theorem e_impl_PutWord (N : Nat) {R : Type} (n : Int) (K : AV → Hp E → Option R) :
    runFnI (E := E) (O_impl_PutWord N) (noIt) sl_impl_PutWord J_impl_PutWord Go.Proofs.Try.f69 [(Go.Eng.AV.sc (Go.Eng.SV.int Go.IntKind.i64 n))] [] K =
      g_impl_PutWord N n (fun s => K (Go.Eng.AV.sc (Go.Eng.SV.str s)) []) := by kernel_rfl
def o_impl_PutWord (N : Nat) {R : Type} (args : List AV) (H : Hp E) (K : AV → Hp E → Option R) : Option R :=
  match args, H with
  | [(Go.Eng.AV.sc (Go.Eng.SV.int Go.IntKind.i64 n))], [] => g_impl_PutWord N n (fun s => K (Go.Eng.AV.sc (Go.Eng.SV.str s)) [])
  | _, _ => none
theorem o_impl_PutWord_ok (N : Nat) : FnOk E 69 (o_impl_PutWord N) := by
  intro R args H K r h
  unfold o_impl_PutWord at h
  dsimp only at h
  split at h
  · exact fnB_ok (ids := []) (top := []) ok (O_impl_PutWord_ok N) (jn_ok _ _ _) Go.Proofs.Try.func69 (by kernel_rfl) (IT := noIt) (sl := sl_impl_PutWord) (J := J_impl_PutWord) (K := K) (H := []) (noIt_ok) (by kernel_rfl) rfl ((e_impl_PutWord N _ K).trans h)
  · cases h
/-! ### loop.example/g00038/impl.yjoin -/
abbrev sl_impl_yjoin_w : SlotT := []
abbrev J_impl_yjoin_w : JT := jn [] [] []
noncomputable def O_impl_yjoin_w (N : Nat) : Orc E := addFn 111 osp_111 (noFn)
theorem O_impl_yjoin_w_ok (N : Nat) : OrcOk (O_impl_yjoin_w N) := addFn_ok osp_111_ok (noFn_ok)
def g_impl_yjoin_w (N : Nat) {R : Type} (b : Bool) (l : List ByteArray) (k : ByteArray → Option R) : Option R :=
  (cond (Go.Eng.joinOk l (ByteArray.mk (List.toArray [])))
  (k (Go.Eng.joinB l (ByteArray.mk (List.toArray []))))
  none)
theorem e_impl_yjoin_w (N : Nat) {R : Type} (b : Bool) (l : List ByteArray) (K : AV → Hp E → Option R) :
    runFnI (E := E) (O_impl_yjoin_w N) (noIt) sl_impl_yjoin_w J_impl_yjoin_w Go.Proofs.Try.f68 [(Go.Eng.AV.sc (Go.Eng.SV.slc 0 Option.none b))] [(Option.some (Go.Eng.HE.mk Bool.false (Go.Eng.HB.rows (Go.Sa.B.str l))))] K =
      g_impl_yjoin_w N b l (fun s => K (Go.Eng.AV.sc (Go.Eng.SV.str s)) [(Option.some (Go.Eng.HE.mk Bool.false (Go.Eng.HB.rows (Go.Sa.B.str l))))]) := by kernel_rfl
def o_impl_yjoin_w (N : Nat) {R : Type} (args : List AV) (H : Hp E) (K : AV → Hp E → Option R) : Option R :=
  match args, H with
  | [(Go.Eng.AV.sc (Go.Eng.SV.slc 0 Option.none b))], [(Option.some (Go.Eng.HE.mk Bool.false (Go.Eng.HB.rows (Go.Sa.B.str l))))] => g_impl_yjoin_w N b l (fun s => K (Go.Eng.AV.sc (Go.Eng.SV.str s)) [(Option.some (Go.Eng.HE.mk Bool.false (Go.Eng.HB.rows (Go.Sa.B.str l))))])
  | _, _ => none
theorem o_impl_yjoin_w_ok (N : Nat) : FnOk E 68 (o_impl_yjoin_w N) := by
  intro R args H K r h
  unfold o_impl_yjoin_w at h
  dsimp only at h
  split at h
  · exact fnB_ok (ids := []) (top := []) ok (O_impl_yjoin_w_ok N) (jn_ok _ _ _) Go.Proofs.Try.func68 (by kernel_rfl) (IT := noIt) (sl := sl_impl_yjoin_w) (J := J_impl_yjoin_w) (K := K) (H := [(Option.some (Go.Eng.HE.mk Bool.false (Go.Eng.HB.rows (Go.Sa.B.str _))))]) (noIt_ok) (by kernel_rfl) rfl ((e_impl_yjoin_w N _ _ K).trans h)
  · cases h
/-! ### loop.example/g00038/impl.ymod -/
abbrev sl_impl_ymod : SlotT := []
abbrev J_impl_ymod : JT := jn [] [(9, [(0, .i .i64)])] []
noncomputable def O_impl_ymod (N : Nat) : Orc E := noFn
theorem O_impl_ymod_ok (N : Nat) : OrcOk (O_impl_ymod N) := noFn_ok
def g_impl_ymod (N : Nat) {R : Type} (n : Int) (n1 : Int) (k : Int → Option R) : Option R :=
  (cond (n1 == (0 : Int))
  none
  (oK (cond (decide (((Int.tmod n n1) < (0 : Int))))
      (some (Go.IntKind.wrap Go.IntKind.i64 ((Int.tmod n n1) + n1)))
      (some (Int.tmod n n1))) fun j =>
    (k j)))
theorem e_impl_ymod (N : Nat) {R : Type} (n : Int) (n1 : Int) (K : AV → Hp E → Option R) :
    runFnI (E := E) (O_impl_ymod N) (noIt) sl_impl_ymod J_impl_ymod Go.Proofs.Try.f110 [(Go.Eng.AV.sc (Go.Eng.SV.int Go.IntKind.i64 n)), (Go.Eng.AV.sc (Go.Eng.SV.int Go.IntKind.i64 n1))] [] K =
      g_impl_ymod N n n1 (fun n2 => K (Go.Eng.AV.sc (Go.Eng.SV.int Go.IntKind.i64 n2)) []) := by kernel_rfl
def o_impl_ymod (N : Nat) {R : Type} (args : List AV) (H : Hp E) (K : AV → Hp E → Option R) : Option R :=
  match args, H with
  | [(Go.Eng.AV.sc (Go.Eng.SV.int Go.IntKind.i64 n)), (Go.Eng.AV.sc (Go.Eng.SV.int Go.IntKind.i64 n1))], [] => g_impl_ymod N n n1 (fun n2 => K (Go.Eng.AV.sc (Go.Eng.SV.int Go.IntKind.i64 n2)) [])
  | _, _ => none
theorem o_impl_ymod_ok (N : Nat) : FnOk E 110 (o_impl_ymod N) := by
  intro R args H K r h
  unfold o_impl_ymod at h
  dsimp only at h
  split at h
  · exact fnB_ok (ids := []) (top := []) ok (O_impl_ymod_ok N) (jn_ok _ _ _) Go.Proofs.Try.func110 (by kernel_rfl) (IT := noIt) (sl := sl_impl_ymod) (J := J_impl_ymod) (K := K) (H := []) (noIt_ok) (by kernel_rfl) rfl ((e_impl_ymod N _ _ K).trans h)
  · cases h
/-! ### loop.example/g00038/impl.ymix -/
abbrev sl_impl_ymix : SlotT := [(0, ([0, 5, 11, 12], [5]))]
abbrev J_impl_ymix : JT := jn [] [] []
noncomputable def O_impl_ymix (N : Nat) : Orc E := addFn 110 (o_impl_ymod N) (noFn)
theorem O_impl_ymix_ok (N : Nat) : OrcOk (O_impl_ymix N) := addFn_ok (o_impl_ymod_ok N) (noFn_ok)
def s_impl_ymix_0 (N : Nat) {R : Type} (s1 : ByteArray) (n3 : Int) (n2 : Int) (n4 : Int) (ag : Int → Int → Option R)  (kN : Int → Option R) : Option R :=
  (cond (decide ((n4 < n3)))
  (cond ((decide (((0 : Int) ≤ n4))) && (decide ((n4 < (((ByteArray.size s1) : Nat) : Int)))))
    (ag (Int.tmod (Go.IntKind.wrap Go.IntKind.i64 ((Go.IntKind.wrap Go.IntKind.i64 ((Go.IntKind.wrap Go.IntKind.i64 (n2 * (65599 : Int))) + (Go.IntKind.wrap Go.IntKind.i64 (Go.Eng.bt s1 (Int.toNat n4))))) + (1 : Int))) (2147483629 : Int)) (Go.IntKind.wrap Go.IntKind.i64 (n4 + (1 : Int))))
    none)
  (kN n2))
def l_impl_ymix_0 (N : Nat) {R : Type} (s1 : ByteArray) (n3 : Int) (kN : Int → Option R) : Nat → Int → Int → Option R
  | 0, _, _ => none
  | f + 1, n2, n4 => s_impl_ymix_0 N s1 n3 n2 n4 (fun n2 n4 => l_impl_ymix_0 N s1 n3 kN f n2 n4)  kN
def c_impl_ymix_0 (N : Nat) {R : Type} (s1 : ByteArray) (n3 : Int) (n2 : Int) (n4 : Int) (kN : Int → Option R) : Option R := l_impl_ymix_0 N s1 n3 kN N n2 n4
theorem se_impl_ymix_0 (N : Nat) {R : Type} (s1 : ByteArray) (n3 : Int) (n2 : Int) (n4 : Int) (AG : List (Option AV) → Hp E → Option R) (KL : Ex → List (Option AV) → Hp E → Option R) :
    iterStep (E := E) (O_impl_ymix N) (fun {R} => LI (noIt) 0 29 sl_impl_ymix (R := R)) J_impl_ymix 0 29 0 [0, 5, 11, 12] [5] (body Go.Proofs.Try.f67 0) AG KL [(Option.some (Go.Eng.AV.sc (Go.Eng.SV.str s1))), (Option.some (Go.Eng.AV.sc (Go.Eng.SV.int Go.IntKind.i64 n2))), (Option.some (Go.Eng.AV.sc (Go.Eng.SV.int Go.IntKind.i64 n3))), (Option.some (Go.Eng.AV.sc (Go.Eng.SV.int Go.IntKind.i64 n4)))] [] =
      s_impl_ymix_0 N s1 n3 n2 n4 (fun n2 n4 => AG [(Option.some (Go.Eng.AV.sc (Go.Eng.SV.str s1))), (Option.some (Go.Eng.AV.sc (Go.Eng.SV.int Go.IntKind.i64 n2))), (Option.some (Go.Eng.AV.sc (Go.Eng.SV.int Go.IntKind.i64 n3))), (Option.some (Go.Eng.AV.sc (Go.Eng.SV.int Go.IntKind.i64 n4)))] [])  (fun n7 => KL Go.Eng.Ex.normal [(Option.some (Go.Eng.AV.sc (Go.Eng.SV.int Go.IntKind.i64 n7)))] []) := by kernel_rfl
theorem le_impl_ymix_0 (N : Nat) {R : Type} (s1 : ByteArray) (n3 : Int) (KL : Ex → List (Option AV) → Hp E → Option R) : ∀ (f : Nat), ∀ (n2 : Int) (n4 : Int), iterK (E := E) (O_impl_ymix N) (fun {R} => LI (noIt) 0 29 sl_impl_ymix (R := R)) J_impl_ymix 0 29 0 [0, 5, 11, 12] [5] (body Go.Proofs.Try.f67 0) f [(Option.some (Go.Eng.AV.sc (Go.Eng.SV.str s1))), (Option.some (Go.Eng.AV.sc (Go.Eng.SV.int Go.IntKind.i64 n2))), (Option.some (Go.Eng.AV.sc (Go.Eng.SV.int Go.IntKind.i64 n3))), (Option.some (Go.Eng.AV.sc (Go.Eng.SV.int Go.IntKind.i64 n4)))] [] KL = l_impl_ymix_0 N s1 n3 (fun n7 => KL Go.Eng.Ex.normal [(Option.some (Go.Eng.AV.sc (Go.Eng.SV.int Go.IntKind.i64 n7)))] []) f n2 n4 := by
  intro f
  induction f with
  | zero => intros; rfl
  | succ f ih =>
    intro n2 n4
    rw [iterK_succ, se_impl_ymix_0]
    exact (congrArg (fun z0 => s_impl_ymix_0 N s1 n3 n2 n4 z0 (fun n7 => KL Go.Eng.Ex.normal [(Option.some (Go.Eng.AV.sc (Go.Eng.SV.int Go.IntKind.i64 n7)))] [])) (funext fun n2 => funext fun n4 => ih n2 n4))
def i_impl_ymix_0 (N : Nat) {R : Type} (vs : List (Option AV)) (H : Hp E) (KL : Ex → List (Option AV) → Hp E → Option R) : Option R :=
  match vs, H with
  | [(Option.some (Go.Eng.AV.sc (Go.Eng.SV.str s1))), (Option.some (Go.Eng.AV.sc (Go.Eng.SV.int Go.IntKind.i64 n2))), (Option.some (Go.Eng.AV.sc (Go.Eng.SV.int Go.IntKind.i64 n3))), (Option.some (Go.Eng.AV.sc (Go.Eng.SV.int Go.IntKind.i64 n4)))], [] => c_impl_ymix_0 N s1 n3 n2 n4 (fun n8 => KL Go.Eng.Ex.normal [(Option.some (Go.Eng.AV.sc (Go.Eng.SV.int Go.IntKind.i64 n8)))] [])
  | _, _ => none
noncomputable def IT_impl_ymix_0 (N : Nat) : Its E := addIt 0 (i_impl_ymix_0 N) (noIt)
theorem IT_impl_ymix_0_ok (N : Nat) : ItOk (IT_impl_ymix_0 N) 0 29 sl_impl_ymix (lsB Go.Proofs.Try.f67 [0]) :=
  addItB_ok (inner := []) ok (O_impl_ymix_ok N) (jn_ok _ _ _) (noIt_ok) rfl (by kernel_rfl) rfl fun vs H KL r h => by
    unfold i_impl_ymix_0 at h
    split at h
    · exact ⟨_, (le_impl_ymix_0 N _ _ KL N _ _).trans h⟩
    · cases h
def g_impl_ymix (N : Nat) {R : Type} (s : ByteArray) (n : Int) (k : Int → Option R) : Option R :=
  (g_impl_ymod N n (2147483629 : Int) fun n1 =>
  (c_impl_ymix_0 N s (((ByteArray.size s) : Nat) : Int) (Go.IntKind.wrap Go.IntKind.i64 (n1 + (1 : Int))) (0 : Int) fun n5 =>
  (k (Int.tmod (Go.IntKind.wrap Go.IntKind.i64 ((Go.IntKind.wrap Go.IntKind.i64 (n5 * (40503 : Int))) + (77 : Int))) (2147483629 : Int)))))
theorem e_impl_ymix (N : Nat) {R : Type} (s : ByteArray) (n : Int) (K : AV → Hp E → Option R) :
    runFnI (E := E) (O_impl_ymix N) (IT_impl_ymix_0 N) sl_impl_ymix J_impl_ymix Go.Proofs.Try.f67 [(Go.Eng.AV.sc (Go.Eng.SV.str s)), (Go.Eng.AV.sc (Go.Eng.SV.int Go.IntKind.i64 n))] [] K =
      g_impl_ymix N s n (fun n6 => K (Go.Eng.AV.sc (Go.Eng.SV.int Go.IntKind.i64 n6)) []) := by kernel_rfl
def o_impl_ymix (N : Nat) {R : Type} (args : List AV) (H : Hp E) (K : AV → Hp E → Option R) : Option R :=
  match args, H with
  | [(Go.Eng.AV.sc (Go.Eng.SV.str s)), (Go.Eng.AV.sc (Go.Eng.SV.int Go.IntKind.i64 n))], [] => g_impl_ymix N s n (fun n6 => K (Go.Eng.AV.sc (Go.Eng.SV.int Go.IntKind.i64 n6)) [])
  | _, _ => none
theorem o_impl_ymix_ok (N : Nat) : FnOk E 67 (o_impl_ymix N) := by
  intro R args H K r h
  unfold o_impl_ymix at h
  dsimp only at h
  split at h
  · exact fnB_ok (ids := [0]) (top := [0]) ok (O_impl_ymix_ok N) (jn_ok _ _ _) Go.Proofs.Try.func67 (by kernel_rfl) (IT := IT_impl_ymix_0 N) (sl := sl_impl_ymix) (J := J_impl_ymix) (K := K) (H := []) (IT_impl_ymix_0_ok N) (by kernel_rfl) rfl ((e_impl_ymix N _ _ K).trans h)
  · cases h
end Go.Sa
