import Derived.Test.YtmmgjioemnhoaaaSpec
import Derived.Test.YtmmgjioemnhoaaaPLb
import Derived.Test.YtmmgjioemnhoaaaW3
set_option linter.all false
namespace Go.Sa
open Go Go.Eng Go.Proofs
set_option maxRecDepth 100000
/-! ### (*loop.example/g00038/spec.l01Src).spoil -/
abbrev sl_spec_l01Src_spoil_Wr : SlotT := []
abbrev J_spec_l01Src_spoil_Wr : JT := jn [] [] []
noncomputable def O_spec_l01Src_spoil_Wr (N : Nat) : Orc E := addFn 94 (o_spec_l01Src_one_Wr N) (addFn 91 (o_spec_l01Src_n_Wr N) (noFn))
def pa_spec_l01Src_spoil_Wr__o_spec_l01Src_one_Wr (N : Nat) (G_spec_l01Src_one_Wr : ∀ {R : Type} (n : Int) (b : Bool) (n1 : Int) (n2 : Int) (n3 : Int) (l : List Int) (k : Bool → Int → Int → Option R), Option R) (G_spec_l01Src_n_Wr : ∀ {R : Type} (n : Int) (b : Bool) (n1 : Int) (n2 : Int) (n3 : Int) (l : List Int) (k : Int → Int → Int → Option R), Option R) {R : Type} (args : List AV) (H : Hp E) (K : AV → Hp E → Option R) : Option R :=
  match args, H with
  | [(Go.Eng.AV.sc (Go.Eng.SV.ptr 0 0 0)), (Go.Eng.AV.sc (Go.Eng.SV.int Go.IntKind.i64 n))], [(Option.some (Go.Eng.HE.mk Bool.false (Go.Eng.HB.exp Option.none [(Go.Eng.SV.slc 1 Option.none b), (Go.Eng.SV.int Go.IntKind.i64 n1), (Go.Eng.SV.int Go.IntKind.u64 n2), (Go.Eng.SV.int Go.IntKind.i64 n3)]))), (Option.some (Go.Eng.HE.mk Bool.true (Go.Eng.HB.rows (Go.Sa.B.u8 l))))] => G_spec_l01Src_one_Wr n b n1 n2 n3 l (fun b1 n7 n8 => K (Go.Eng.AV.sc (Go.Eng.SV.bool b1)) [(Option.some (Go.Eng.HE.mk Bool.false (Go.Eng.HB.exp Option.none [(Go.Eng.SV.slc 1 Option.none b), (Go.Eng.SV.int Go.IntKind.i64 n7), (Go.Eng.SV.int Go.IntKind.u64 n8), (Go.Eng.SV.int Go.IntKind.i64 n3)]))), (Option.some (Go.Eng.HE.mk Bool.true (Go.Eng.HB.rows (Go.Sa.B.u8 l))))])
  | _, _ => none
def pa_spec_l01Src_spoil_Wr__o_spec_l01Src_n_Wr (N : Nat) (G_spec_l01Src_one_Wr : ∀ {R : Type} (n : Int) (b : Bool) (n1 : Int) (n2 : Int) (n3 : Int) (l : List Int) (k : Bool → Int → Int → Option R), Option R) (G_spec_l01Src_n_Wr : ∀ {R : Type} (n : Int) (b : Bool) (n1 : Int) (n2 : Int) (n3 : Int) (l : List Int) (k : Int → Int → Int → Option R), Option R) {R : Type} (args : List AV) (H : Hp E) (K : AV → Hp E → Option R) : Option R :=
  match args, H with
  | [(Go.Eng.AV.sc (Go.Eng.SV.ptr 0 0 0)), (Go.Eng.AV.sc (Go.Eng.SV.int Go.IntKind.i64 n))], [(Option.some (Go.Eng.HE.mk Bool.false (Go.Eng.HB.exp Option.none [(Go.Eng.SV.slc 1 Option.none b), (Go.Eng.SV.int Go.IntKind.i64 n1), (Go.Eng.SV.int Go.IntKind.u64 n2), (Go.Eng.SV.int Go.IntKind.i64 n3)]))), (Option.some (Go.Eng.HE.mk Bool.true (Go.Eng.HB.rows (Go.Sa.B.u8 l))))] => G_spec_l01Src_n_Wr n b n1 n2 n3 l (fun n4 n5 n6 => K (Go.Eng.AV.sc (Go.Eng.SV.int Go.IntKind.i64 n4)) [(Option.some (Go.Eng.HE.mk Bool.false (Go.Eng.HB.exp Option.none [(Go.Eng.SV.slc 1 Option.none b), (Go.Eng.SV.int Go.IntKind.i64 n5), (Go.Eng.SV.int Go.IntKind.u64 n6), (Go.Eng.SV.int Go.IntKind.i64 n3)]))), (Option.some (Go.Eng.HE.mk Bool.true (Go.Eng.HB.rows (Go.Sa.B.u8 l))))])
  | _, _ => none
noncomputable def OA_spec_l01Src_spoil_Wr (N : Nat) (G_spec_l01Src_one_Wr : ∀ {R : Type} (n : Int) (b : Bool) (n1 : Int) (n2 : Int) (n3 : Int) (l : List Int) (k : Bool → Int → Int → Option R), Option R) (G_spec_l01Src_n_Wr : ∀ {R : Type} (n : Int) (b : Bool) (n1 : Int) (n2 : Int) (n3 : Int) (l : List Int) (k : Int → Int → Int → Option R), Option R) : Orc E := addFn 94 (pa_spec_l01Src_spoil_Wr__o_spec_l01Src_one_Wr N G_spec_l01Src_one_Wr G_spec_l01Src_n_Wr) (addFn 91 (pa_spec_l01Src_spoil_Wr__o_spec_l01Src_n_Wr N G_spec_l01Src_one_Wr G_spec_l01Src_n_Wr) (noFn))
theorem O_spec_l01Src_spoil_Wr_ok (N : Nat) : OrcOk (O_spec_l01Src_spoil_Wr N) := addFn_ok (o_spec_l01Src_one_Wr_ok N) (addFn_ok (o_spec_l01Src_n_Wr_ok N) (noFn_ok))
def g_spec_l01Src_spoil_Wr (N : Nat) {R : Type} (s : ByteArray) (b : Bool) (n : Int) (n1 : Int) (n2 : Int) (l : List Int) (k : ByteArray → Int → Int → Option R) : Option R :=
  (g_spec_l01Src_n_Wr N (Go.IntKind.wrap Go.IntKind.i64 ((((ByteArray.size s) : Nat) : Int) + (1 : Int))) b n n1 n2 l fun n3 n4 n5 =>
  (g_spec_l01Src_n_Wr N (14 : Int) b n4 n5 n2 l fun n6 n7 n8 =>
  (cond ((decide (((0 : Int) ≤ n6))) && (decide ((n6 < (14 : Int)))))
  (cond (n3 == (((ByteArray.size s) : Nat) : Int))
    (cond ((decide (((0 : Int) ≤ n3))) && (decide ((n3 ≤ (((ByteArray.size s) : Nat) : Int)))))
      (cond (Nat.ble ((ByteArray.size (ByteArray.extract s 0 (Int.toNat n3))) + (ByteArray.size (Go.Eng.toBytes (Go.Eng.seg [(Go.Eng.bt (ByteArray.mk (List.toArray [(32 : UInt8), (10 : UInt8), (48 : UInt8), (97 : UInt8), (45 : UInt8), (114 : UInt8), (44 : UInt8), (0 : UInt8), (255 : UInt8), (58 : UInt8), (46 : UInt8), (64 : UInt8), (34 : UInt8), (49 : UInt8)])) (Int.toNat n6))] 0 (List.length [(Go.Eng.bt (ByteArray.mk (List.toArray [(32 : UInt8), (10 : UInt8), (48 : UInt8), (97 : UInt8), (45 : UInt8), (114 : UInt8), (44 : UInt8), (0 : UInt8), (255 : UInt8), (58 : UInt8), (46 : UInt8), (64 : UInt8), (34 : UInt8), (49 : UInt8)])) (Int.toNat n6))]))))) 9223372036854775807)
        (cond (((decide (((0 : Int) ≤ n3))) && (decide ((n3 ≤ (((ByteArray.size s) : Nat) : Int))))) && (decide (((((ByteArray.size s) : Nat) : Int) ≤ (((ByteArray.size s) : Nat) : Int)))))
          (cond (Nat.ble ((ByteArray.size ((ByteArray.extract s 0 (Int.toNat n3)) ++ (Go.Eng.toBytes (Go.Eng.seg [(Go.Eng.bt (ByteArray.mk (List.toArray [(32 : UInt8), (10 : UInt8), (48 : UInt8), (97 : UInt8), (45 : UInt8), (114 : UInt8), (44 : UInt8), (0 : UInt8), (255 : UInt8), (58 : UInt8), (46 : UInt8), (64 : UInt8), (34 : UInt8), (49 : UInt8)])) (Int.toNat n6))] 0 (List.length [(Go.Eng.bt (ByteArray.mk (List.toArray [(32 : UInt8), (10 : UInt8), (48 : UInt8), (97 : UInt8), (45 : UInt8), (114 : UInt8), (44 : UInt8), (0 : UInt8), (255 : UInt8), (58 : UInt8), (46 : UInt8), (64 : UInt8), (34 : UInt8), (49 : UInt8)])) (Int.toNat n6))]))))) + (ByteArray.size (ByteArray.extract s (Int.toNat n3) (Int.toNat (((ByteArray.size s) : Nat) : Int))))) 9223372036854775807)
            (k (((ByteArray.extract s 0 (Int.toNat n3)) ++ (Go.Eng.toBytes (Go.Eng.seg [(Go.Eng.bt (ByteArray.mk (List.toArray [(32 : UInt8), (10 : UInt8), (48 : UInt8), (97 : UInt8), (45 : UInt8), (114 : UInt8), (44 : UInt8), (0 : UInt8), (255 : UInt8), (58 : UInt8), (46 : UInt8), (64 : UInt8), (34 : UInt8), (49 : UInt8)])) (Int.toNat n6))] 0 (List.length [(Go.Eng.bt (ByteArray.mk (List.toArray [(32 : UInt8), (10 : UInt8), (48 : UInt8), (97 : UInt8), (45 : UInt8), (114 : UInt8), (44 : UInt8), (0 : UInt8), (255 : UInt8), (58 : UInt8), (46 : UInt8), (64 : UInt8), (34 : UInt8), (49 : UInt8)])) (Int.toNat n6))])))) ++ (ByteArray.extract s (Int.toNat n3) (Int.toNat (((ByteArray.size s) : Nat) : Int)))) n7 n8)
            none)
          none)
        none)
      none)
    (g_spec_l01Src_one_Wr N (3 : Int) b n7 n8 n2 l fun b1 n9 n10 =>
      (cond b1
      (cond ((decide (((0 : Int) ≤ n3))) && (decide ((n3 ≤ (((ByteArray.size s) : Nat) : Int)))))
        (cond (Nat.ble ((ByteArray.size (ByteArray.extract s 0 (Int.toNat n3))) + (ByteArray.size (Go.Eng.toBytes (Go.Eng.seg [(Go.Eng.bt (ByteArray.mk (List.toArray [(32 : UInt8), (10 : UInt8), (48 : UInt8), (97 : UInt8), (45 : UInt8), (114 : UInt8), (44 : UInt8), (0 : UInt8), (255 : UInt8), (58 : UInt8), (46 : UInt8), (64 : UInt8), (34 : UInt8), (49 : UInt8)])) (Int.toNat n6))] 0 (List.length [(Go.Eng.bt (ByteArray.mk (List.toArray [(32 : UInt8), (10 : UInt8), (48 : UInt8), (97 : UInt8), (45 : UInt8), (114 : UInt8), (44 : UInt8), (0 : UInt8), (255 : UInt8), (58 : UInt8), (46 : UInt8), (64 : UInt8), (34 : UInt8), (49 : UInt8)])) (Int.toNat n6))]))))) 9223372036854775807)
          (cond (((decide (((0 : Int) ≤ n3))) && (decide ((n3 ≤ (((ByteArray.size s) : Nat) : Int))))) && (decide (((((ByteArray.size s) : Nat) : Int) ≤ (((ByteArray.size s) : Nat) : Int)))))
            (cond (Nat.ble ((ByteArray.size ((ByteArray.extract s 0 (Int.toNat n3)) ++ (Go.Eng.toBytes (Go.Eng.seg [(Go.Eng.bt (ByteArray.mk (List.toArray [(32 : UInt8), (10 : UInt8), (48 : UInt8), (97 : UInt8), (45 : UInt8), (114 : UInt8), (44 : UInt8), (0 : UInt8), (255 : UInt8), (58 : UInt8), (46 : UInt8), (64 : UInt8), (34 : UInt8), (49 : UInt8)])) (Int.toNat n6))] 0 (List.length [(Go.Eng.bt (ByteArray.mk (List.toArray [(32 : UInt8), (10 : UInt8), (48 : UInt8), (97 : UInt8), (45 : UInt8), (114 : UInt8), (44 : UInt8), (0 : UInt8), (255 : UInt8), (58 : UInt8), (46 : UInt8), (64 : UInt8), (34 : UInt8), (49 : UInt8)])) (Int.toNat n6))]))))) + (ByteArray.size (ByteArray.extract s (Int.toNat n3) (Int.toNat (((ByteArray.size s) : Nat) : Int))))) 9223372036854775807)
              (k (((ByteArray.extract s 0 (Int.toNat n3)) ++ (Go.Eng.toBytes (Go.Eng.seg [(Go.Eng.bt (ByteArray.mk (List.toArray [(32 : UInt8), (10 : UInt8), (48 : UInt8), (97 : UInt8), (45 : UInt8), (114 : UInt8), (44 : UInt8), (0 : UInt8), (255 : UInt8), (58 : UInt8), (46 : UInt8), (64 : UInt8), (34 : UInt8), (49 : UInt8)])) (Int.toNat n6))] 0 (List.length [(Go.Eng.bt (ByteArray.mk (List.toArray [(32 : UInt8), (10 : UInt8), (48 : UInt8), (97 : UInt8), (45 : UInt8), (114 : UInt8), (44 : UInt8), (0 : UInt8), (255 : UInt8), (58 : UInt8), (46 : UInt8), (64 : UInt8), (34 : UInt8), (49 : UInt8)])) (Int.toNat n6))])))) ++ (ByteArray.extract s (Int.toNat n3) (Int.toNat (((ByteArray.size s) : Nat) : Int)))) n9 n10)
              none)
            none)
          none)
        none)
      (g_spec_l01Src_one_Wr N (2 : Int) b n9 n10 n2 l fun b2 n11 n12 =>
        (cond b2
        (cond ((decide (((0 : Int) ≤ n3))) && (decide ((n3 ≤ (((ByteArray.size s) : Nat) : Int)))))
          (cond (((decide (((0 : Int) ≤ (Go.IntKind.wrap Go.IntKind.i64 (n3 + (1 : Int)))))) && (decide (((Go.IntKind.wrap Go.IntKind.i64 (n3 + (1 : Int))) ≤ (((ByteArray.size s) : Nat) : Int))))) && (decide (((((ByteArray.size s) : Nat) : Int) ≤ (((ByteArray.size s) : Nat) : Int)))))
            (cond (Nat.ble ((ByteArray.size (ByteArray.extract s 0 (Int.toNat n3))) + (ByteArray.size (ByteArray.extract s (Int.toNat (Go.IntKind.wrap Go.IntKind.i64 (n3 + (1 : Int)))) (Int.toNat (((ByteArray.size s) : Nat) : Int))))) 9223372036854775807)
              (k ((ByteArray.extract s 0 (Int.toNat n3)) ++ (ByteArray.extract s (Int.toNat (Go.IntKind.wrap Go.IntKind.i64 (n3 + (1 : Int)))) (Int.toNat (((ByteArray.size s) : Nat) : Int)))) n11 n12)
              none)
            none)
          none)
        (cond ((decide (((0 : Int) ≤ n3))) && (decide ((n3 ≤ (((ByteArray.size s) : Nat) : Int)))))
          (cond (Nat.ble ((ByteArray.size (ByteArray.extract s 0 (Int.toNat n3))) + (ByteArray.size (Go.Eng.toBytes (Go.Eng.seg [(Go.Eng.bt (ByteArray.mk (List.toArray [(32 : UInt8), (10 : UInt8), (48 : UInt8), (97 : UInt8), (45 : UInt8), (114 : UInt8), (44 : UInt8), (0 : UInt8), (255 : UInt8), (58 : UInt8), (46 : UInt8), (64 : UInt8), (34 : UInt8), (49 : UInt8)])) (Int.toNat n6))] 0 (List.length [(Go.Eng.bt (ByteArray.mk (List.toArray [(32 : UInt8), (10 : UInt8), (48 : UInt8), (97 : UInt8), (45 : UInt8), (114 : UInt8), (44 : UInt8), (0 : UInt8), (255 : UInt8), (58 : UInt8), (46 : UInt8), (64 : UInt8), (34 : UInt8), (49 : UInt8)])) (Int.toNat n6))]))))) 9223372036854775807)
            (cond (((decide (((0 : Int) ≤ (Go.IntKind.wrap Go.IntKind.i64 (n3 + (1 : Int)))))) && (decide (((Go.IntKind.wrap Go.IntKind.i64 (n3 + (1 : Int))) ≤ (((ByteArray.size s) : Nat) : Int))))) && (decide (((((ByteArray.size s) : Nat) : Int) ≤ (((ByteArray.size s) : Nat) : Int)))))
              (cond (Nat.ble ((ByteArray.size ((ByteArray.extract s 0 (Int.toNat n3)) ++ (Go.Eng.toBytes (Go.Eng.seg [(Go.Eng.bt (ByteArray.mk (List.toArray [(32 : UInt8), (10 : UInt8), (48 : UInt8), (97 : UInt8), (45 : UInt8), (114 : UInt8), (44 : UInt8), (0 : UInt8), (255 : UInt8), (58 : UInt8), (46 : UInt8), (64 : UInt8), (34 : UInt8), (49 : UInt8)])) (Int.toNat n6))] 0 (List.length [(Go.Eng.bt (ByteArray.mk (List.toArray [(32 : UInt8), (10 : UInt8), (48 : UInt8), (97 : UInt8), (45 : UInt8), (114 : UInt8), (44 : UInt8), (0 : UInt8), (255 : UInt8), (58 : UInt8), (46 : UInt8), (64 : UInt8), (34 : UInt8), (49 : UInt8)])) (Int.toNat n6))]))))) + (ByteArray.size (ByteArray.extract s (Int.toNat (Go.IntKind.wrap Go.IntKind.i64 (n3 + (1 : Int)))) (Int.toNat (((ByteArray.size s) : Nat) : Int))))) 9223372036854775807)
                (k (((ByteArray.extract s 0 (Int.toNat n3)) ++ (Go.Eng.toBytes (Go.Eng.seg [(Go.Eng.bt (ByteArray.mk (List.toArray [(32 : UInt8), (10 : UInt8), (48 : UInt8), (97 : UInt8), (45 : UInt8), (114 : UInt8), (44 : UInt8), (0 : UInt8), (255 : UInt8), (58 : UInt8), (46 : UInt8), (64 : UInt8), (34 : UInt8), (49 : UInt8)])) (Int.toNat n6))] 0 (List.length [(Go.Eng.bt (ByteArray.mk (List.toArray [(32 : UInt8), (10 : UInt8), (48 : UInt8), (97 : UInt8), (45 : UInt8), (114 : UInt8), (44 : UInt8), (0 : UInt8), (255 : UInt8), (58 : UInt8), (46 : UInt8), (64 : UInt8), (34 : UInt8), (49 : UInt8)])) (Int.toNat n6))])))) ++ (ByteArray.extract s (Int.toNat (Go.IntKind.wrap Go.IntKind.i64 (n3 + (1 : Int)))) (Int.toNat (((ByteArray.size s) : Nat) : Int)))) n11 n12)
                none)
              none)
            none)
          none))))))
  none)))
def ga_g_spec_l01Src_spoil_Wr (N : Nat) (G_spec_l01Src_one_Wr : ∀ {R : Type} (n : Int) (b : Bool) (n1 : Int) (n2 : Int) (n3 : Int) (l : List Int) (k : Bool → Int → Int → Option R), Option R) (G_spec_l01Src_n_Wr : ∀ {R : Type} (n : Int) (b : Bool) (n1 : Int) (n2 : Int) (n3 : Int) (l : List Int) (k : Int → Int → Int → Option R), Option R) {R : Type} (s : ByteArray) (b : Bool) (n : Int) (n1 : Int) (n2 : Int) (l : List Int) (k : ByteArray → Int → Int → Option R) : Option R :=
  (G_spec_l01Src_n_Wr (Go.IntKind.wrap Go.IntKind.i64 ((((ByteArray.size s) : Nat) : Int) + (1 : Int))) b n n1 n2 l fun n3 n4 n5 =>
  (G_spec_l01Src_n_Wr (14 : Int) b n4 n5 n2 l fun n6 n7 n8 =>
  (cond ((decide (((0 : Int) ≤ n6))) && (decide ((n6 < (14 : Int)))))
  (cond (n3 == (((ByteArray.size s) : Nat) : Int))
    (cond ((decide (((0 : Int) ≤ n3))) && (decide ((n3 ≤ (((ByteArray.size s) : Nat) : Int)))))
      (cond (Nat.ble ((ByteArray.size (ByteArray.extract s 0 (Int.toNat n3))) + (ByteArray.size (Go.Eng.toBytes (Go.Eng.seg [(Go.Eng.bt (ByteArray.mk (List.toArray [(32 : UInt8), (10 : UInt8), (48 : UInt8), (97 : UInt8), (45 : UInt8), (114 : UInt8), (44 : UInt8), (0 : UInt8), (255 : UInt8), (58 : UInt8), (46 : UInt8), (64 : UInt8), (34 : UInt8), (49 : UInt8)])) (Int.toNat n6))] 0 (List.length [(Go.Eng.bt (ByteArray.mk (List.toArray [(32 : UInt8), (10 : UInt8), (48 : UInt8), (97 : UInt8), (45 : UInt8), (114 : UInt8), (44 : UInt8), (0 : UInt8), (255 : UInt8), (58 : UInt8), (46 : UInt8), (64 : UInt8), (34 : UInt8), (49 : UInt8)])) (Int.toNat n6))]))))) 9223372036854775807)
        (cond (((decide (((0 : Int) ≤ n3))) && (decide ((n3 ≤ (((ByteArray.size s) : Nat) : Int))))) && (decide (((((ByteArray.size s) : Nat) : Int) ≤ (((ByteArray.size s) : Nat) : Int)))))
          (cond (Nat.ble ((ByteArray.size ((ByteArray.extract s 0 (Int.toNat n3)) ++ (Go.Eng.toBytes (Go.Eng.seg [(Go.Eng.bt (ByteArray.mk (List.toArray [(32 : UInt8), (10 : UInt8), (48 : UInt8), (97 : UInt8), (45 : UInt8), (114 : UInt8), (44 : UInt8), (0 : UInt8), (255 : UInt8), (58 : UInt8), (46 : UInt8), (64 : UInt8), (34 : UInt8), (49 : UInt8)])) (Int.toNat n6))] 0 (List.length [(Go.Eng.bt (ByteArray.mk (List.toArray [(32 : UInt8), (10 : UInt8), (48 : UInt8), (97 : UInt8), (45 : UInt8), (114 : UInt8), (44 : UInt8), (0 : UInt8), (255 : UInt8), (58 : UInt8), (46 : UInt8), (64 : UInt8), (34 : UInt8), (49 : UInt8)])) (Int.toNat n6))]))))) + (ByteArray.size (ByteArray.extract s (Int.toNat n3) (Int.toNat (((ByteArray.size s) : Nat) : Int))))) 9223372036854775807)
            (k (((ByteArray.extract s 0 (Int.toNat n3)) ++ (Go.Eng.toBytes (Go.Eng.seg [(Go.Eng.bt (ByteArray.mk (List.toArray [(32 : UInt8), (10 : UInt8), (48 : UInt8), (97 : UInt8), (45 : UInt8), (114 : UInt8), (44 : UInt8), (0 : UInt8), (255 : UInt8), (58 : UInt8), (46 : UInt8), (64 : UInt8), (34 : UInt8), (49 : UInt8)])) (Int.toNat n6))] 0 (List.length [(Go.Eng.bt (ByteArray.mk (List.toArray [(32 : UInt8), (10 : UInt8), (48 : UInt8), (97 : UInt8), (45 : UInt8), (114 : UInt8), (44 : UInt8), (0 : UInt8), (255 : UInt8), (58 : UInt8), (46 : UInt8), (64 : UInt8), (34 : UInt8), (49 : UInt8)])) (Int.toNat n6))])))) ++ (ByteArray.extract s (Int.toNat n3) (Int.toNat (((ByteArray.size s) : Nat) : Int)))) n7 n8)
            none)
          none)
        none)
      none)
    (G_spec_l01Src_one_Wr (3 : Int) b n7 n8 n2 l fun b1 n9 n10 =>
      (cond b1
      (cond ((decide (((0 : Int) ≤ n3))) && (decide ((n3 ≤ (((ByteArray.size s) : Nat) : Int)))))
        (cond (Nat.ble ((ByteArray.size (ByteArray.extract s 0 (Int.toNat n3))) + (ByteArray.size (Go.Eng.toBytes (Go.Eng.seg [(Go.Eng.bt (ByteArray.mk (List.toArray [(32 : UInt8), (10 : UInt8), (48 : UInt8), (97 : UInt8), (45 : UInt8), (114 : UInt8), (44 : UInt8), (0 : UInt8), (255 : UInt8), (58 : UInt8), (46 : UInt8), (64 : UInt8), (34 : UInt8), (49 : UInt8)])) (Int.toNat n6))] 0 (List.length [(Go.Eng.bt (ByteArray.mk (List.toArray [(32 : UInt8), (10 : UInt8), (48 : UInt8), (97 : UInt8), (45 : UInt8), (114 : UInt8), (44 : UInt8), (0 : UInt8), (255 : UInt8), (58 : UInt8), (46 : UInt8), (64 : UInt8), (34 : UInt8), (49 : UInt8)])) (Int.toNat n6))]))))) 9223372036854775807)
          (cond (((decide (((0 : Int) ≤ n3))) && (decide ((n3 ≤ (((ByteArray.size s) : Nat) : Int))))) && (decide (((((ByteArray.size s) : Nat) : Int) ≤ (((ByteArray.size s) : Nat) : Int)))))
            (cond (Nat.ble ((ByteArray.size ((ByteArray.extract s 0 (Int.toNat n3)) ++ (Go.Eng.toBytes (Go.Eng.seg [(Go.Eng.bt (ByteArray.mk (List.toArray [(32 : UInt8), (10 : UInt8), (48 : UInt8), (97 : UInt8), (45 : UInt8), (114 : UInt8), (44 : UInt8), (0 : UInt8), (255 : UInt8), (58 : UInt8), (46 : UInt8), (64 : UInt8), (34 : UInt8), (49 : UInt8)])) (Int.toNat n6))] 0 (List.length [(Go.Eng.bt (ByteArray.mk (List.toArray [(32 : UInt8), (10 : UInt8), (48 : UInt8), (97 : UInt8), (45 : UInt8), (114 : UInt8), (44 : UInt8), (0 : UInt8), (255 : UInt8), (58 : UInt8), (46 : UInt8), (64 : UInt8), (34 : UInt8), (49 : UInt8)])) (Int.toNat n6))]))))) + (ByteArray.size (ByteArray.extract s (Int.toNat n3) (Int.toNat (((ByteArray.size s) : Nat) : Int))))) 9223372036854775807)
              (k (((ByteArray.extract s 0 (Int.toNat n3)) ++ (Go.Eng.toBytes (Go.Eng.seg [(Go.Eng.bt (ByteArray.mk (List.toArray [(32 : UInt8), (10 : UInt8), (48 : UInt8), (97 : UInt8), (45 : UInt8), (114 : UInt8), (44 : UInt8), (0 : UInt8), (255 : UInt8), (58 : UInt8), (46 : UInt8), (64 : UInt8), (34 : UInt8), (49 : UInt8)])) (Int.toNat n6))] 0 (List.length [(Go.Eng.bt (ByteArray.mk (List.toArray [(32 : UInt8), (10 : UInt8), (48 : UInt8), (97 : UInt8), (45 : UInt8), (114 : UInt8), (44 : UInt8), (0 : UInt8), (255 : UInt8), (58 : UInt8), (46 : UInt8), (64 : UInt8), (34 : UInt8), (49 : UInt8)])) (Int.toNat n6))])))) ++ (ByteArray.extract s (Int.toNat n3) (Int.toNat (((ByteArray.size s) : Nat) : Int)))) n9 n10)
              none)
            none)
          none)
        none)
      (G_spec_l01Src_one_Wr (2 : Int) b n9 n10 n2 l fun b2 n11 n12 =>
        (cond b2
        (cond ((decide (((0 : Int) ≤ n3))) && (decide ((n3 ≤ (((ByteArray.size s) : Nat) : Int)))))
          (cond (((decide (((0 : Int) ≤ (Go.IntKind.wrap Go.IntKind.i64 (n3 + (1 : Int)))))) && (decide (((Go.IntKind.wrap Go.IntKind.i64 (n3 + (1 : Int))) ≤ (((ByteArray.size s) : Nat) : Int))))) && (decide (((((ByteArray.size s) : Nat) : Int) ≤ (((ByteArray.size s) : Nat) : Int)))))
            (cond (Nat.ble ((ByteArray.size (ByteArray.extract s 0 (Int.toNat n3))) + (ByteArray.size (ByteArray.extract s (Int.toNat (Go.IntKind.wrap Go.IntKind.i64 (n3 + (1 : Int)))) (Int.toNat (((ByteArray.size s) : Nat) : Int))))) 9223372036854775807)
              (k ((ByteArray.extract s 0 (Int.toNat n3)) ++ (ByteArray.extract s (Int.toNat (Go.IntKind.wrap Go.IntKind.i64 (n3 + (1 : Int)))) (Int.toNat (((ByteArray.size s) : Nat) : Int)))) n11 n12)
              none)
            none)
          none)
        (cond ((decide (((0 : Int) ≤ n3))) && (decide ((n3 ≤ (((ByteArray.size s) : Nat) : Int)))))
          (cond (Nat.ble ((ByteArray.size (ByteArray.extract s 0 (Int.toNat n3))) + (ByteArray.size (Go.Eng.toBytes (Go.Eng.seg [(Go.Eng.bt (ByteArray.mk (List.toArray [(32 : UInt8), (10 : UInt8), (48 : UInt8), (97 : UInt8), (45 : UInt8), (114 : UInt8), (44 : UInt8), (0 : UInt8), (255 : UInt8), (58 : UInt8), (46 : UInt8), (64 : UInt8), (34 : UInt8), (49 : UInt8)])) (Int.toNat n6))] 0 (List.length [(Go.Eng.bt (ByteArray.mk (List.toArray [(32 : UInt8), (10 : UInt8), (48 : UInt8), (97 : UInt8), (45 : UInt8), (114 : UInt8), (44 : UInt8), (0 : UInt8), (255 : UInt8), (58 : UInt8), (46 : UInt8), (64 : UInt8), (34 : UInt8), (49 : UInt8)])) (Int.toNat n6))]))))) 9223372036854775807)
            (cond (((decide (((0 : Int) ≤ (Go.IntKind.wrap Go.IntKind.i64 (n3 + (1 : Int)))))) && (decide (((Go.IntKind.wrap Go.IntKind.i64 (n3 + (1 : Int))) ≤ (((ByteArray.size s) : Nat) : Int))))) && (decide (((((ByteArray.size s) : Nat) : Int) ≤ (((ByteArray.size s) : Nat) : Int)))))
              (cond (Nat.ble ((ByteArray.size ((ByteArray.extract s 0 (Int.toNat n3)) ++ (Go.Eng.toBytes (Go.Eng.seg [(Go.Eng.bt (ByteArray.mk (List.toArray [(32 : UInt8), (10 : UInt8), (48 : UInt8), (97 : UInt8), (45 : UInt8), (114 : UInt8), (44 : UInt8), (0 : UInt8), (255 : UInt8), (58 : UInt8), (46 : UInt8), (64 : UInt8), (34 : UInt8), (49 : UInt8)])) (Int.toNat n6))] 0 (List.length [(Go.Eng.bt (ByteArray.mk (List.toArray [(32 : UInt8), (10 : UInt8), (48 : UInt8), (97 : UInt8), (45 : UInt8), (114 : UInt8), (44 : UInt8), (0 : UInt8), (255 : UInt8), (58 : UInt8), (46 : UInt8), (64 : UInt8), (34 : UInt8), (49 : UInt8)])) (Int.toNat n6))]))))) + (ByteArray.size (ByteArray.extract s (Int.toNat (Go.IntKind.wrap Go.IntKind.i64 (n3 + (1 : Int)))) (Int.toNat (((ByteArray.size s) : Nat) : Int))))) 9223372036854775807)
                (k (((ByteArray.extract s 0 (Int.toNat n3)) ++ (Go.Eng.toBytes (Go.Eng.seg [(Go.Eng.bt (ByteArray.mk (List.toArray [(32 : UInt8), (10 : UInt8), (48 : UInt8), (97 : UInt8), (45 : UInt8), (114 : UInt8), (44 : UInt8), (0 : UInt8), (255 : UInt8), (58 : UInt8), (46 : UInt8), (64 : UInt8), (34 : UInt8), (49 : UInt8)])) (Int.toNat n6))] 0 (List.length [(Go.Eng.bt (ByteArray.mk (List.toArray [(32 : UInt8), (10 : UInt8), (48 : UInt8), (97 : UInt8), (45 : UInt8), (114 : UInt8), (44 : UInt8), (0 : UInt8), (255 : UInt8), (58 : UInt8), (46 : UInt8), (64 : UInt8), (34 : UInt8), (49 : UInt8)])) (Int.toNat n6))])))) ++ (ByteArray.extract s (Int.toNat (Go.IntKind.wrap Go.IntKind.i64 (n3 + (1 : Int)))) (Int.toNat (((ByteArray.size s) : Nat) : Int)))) n11 n12)
                none)
              none)
            none)
          none))))))
  none)))
theorem ea_e_spec_l01Src_spoil_Wr (N : Nat) (G_spec_l01Src_one_Wr : ∀ {R : Type} (n : Int) (b : Bool) (n1 : Int) (n2 : Int) (n3 : Int) (l : List Int) (k : Bool → Int → Int → Option R), Option R) (G_spec_l01Src_n_Wr : ∀ {R : Type} (n : Int) (b : Bool) (n1 : Int) (n2 : Int) (n3 : Int) (l : List Int) (k : Int → Int → Int → Option R), Option R) {R : Type} (s : ByteArray) (b : Bool) (n : Int) (n1 : Int) (n2 : Int) (l : List Int) (K : AV → Hp E → Option R) :
    runFnI (E := E) (OA_spec_l01Src_spoil_Wr N G_spec_l01Src_one_Wr G_spec_l01Src_n_Wr) (noIt) sl_spec_l01Src_spoil_Wr J_spec_l01Src_spoil_Wr Go.Proofs.Try.f98 [(Go.Eng.AV.sc (Go.Eng.SV.ptr 0 0 0)), (Go.Eng.AV.sc (Go.Eng.SV.str s))] [(Option.some (Go.Eng.HE.mk Bool.false (Go.Eng.HB.exp Option.none [(Go.Eng.SV.slc 1 Option.none b), (Go.Eng.SV.int Go.IntKind.i64 n), (Go.Eng.SV.int Go.IntKind.u64 n1), (Go.Eng.SV.int Go.IntKind.i64 n2)]))), (Option.some (Go.Eng.HE.mk Bool.true (Go.Eng.HB.rows (Go.Sa.B.u8 l))))] K =
      ga_g_spec_l01Src_spoil_Wr N G_spec_l01Src_one_Wr G_spec_l01Src_n_Wr s b n n1 n2 l (fun s1 n13 n14 => K (Go.Eng.AV.sc (Go.Eng.SV.str s1)) [(Option.some (Go.Eng.HE.mk Bool.false (Go.Eng.HB.exp Option.none [(Go.Eng.SV.slc 1 Option.none b), (Go.Eng.SV.int Go.IntKind.i64 n13), (Go.Eng.SV.int Go.IntKind.u64 n14), (Go.Eng.SV.int Go.IntKind.i64 n2)]))), (Option.some (Go.Eng.HE.mk Bool.true (Go.Eng.HB.rows (Go.Sa.B.u8 l))))]) := by kernel_rfl
theorem e_spec_l01Src_spoil_Wr (N : Nat) {R : Type} (s : ByteArray) (b : Bool) (n : Int) (n1 : Int) (n2 : Int) (l : List Int) (K : AV → Hp E → Option R) :
    runFnI (E := E) (O_spec_l01Src_spoil_Wr N) (noIt) sl_spec_l01Src_spoil_Wr J_spec_l01Src_spoil_Wr Go.Proofs.Try.f98 [(Go.Eng.AV.sc (Go.Eng.SV.ptr 0 0 0)), (Go.Eng.AV.sc (Go.Eng.SV.str s))] [(Option.some (Go.Eng.HE.mk Bool.false (Go.Eng.HB.exp Option.none [(Go.Eng.SV.slc 1 Option.none b), (Go.Eng.SV.int Go.IntKind.i64 n), (Go.Eng.SV.int Go.IntKind.u64 n1), (Go.Eng.SV.int Go.IntKind.i64 n2)]))), (Option.some (Go.Eng.HE.mk Bool.true (Go.Eng.HB.rows (Go.Sa.B.u8 l))))] K =
      g_spec_l01Src_spoil_Wr N s b n n1 n2 l (fun s1 n13 n14 => K (Go.Eng.AV.sc (Go.Eng.SV.str s1)) [(Option.some (Go.Eng.HE.mk Bool.false (Go.Eng.HB.exp Option.none [(Go.Eng.SV.slc 1 Option.none b), (Go.Eng.SV.int Go.IntKind.i64 n13), (Go.Eng.SV.int Go.IntKind.u64 n14), (Go.Eng.SV.int Go.IntKind.i64 n2)]))), (Option.some (Go.Eng.HE.mk Bool.true (Go.Eng.HB.rows (Go.Sa.B.u8 l))))]) := castPr (by kernel_rfl) (ea_e_spec_l01Src_spoil_Wr N (g_spec_l01Src_one_Wr N) (g_spec_l01Src_n_Wr N) s b n n1 n2 l K)
def o_spec_l01Src_spoil_Wr (N : Nat) {R : Type} (args : List AV) (H : Hp E) (K : AV → Hp E → Option R) : Option R :=
  match args, H with
  | [(Go.Eng.AV.sc (Go.Eng.SV.ptr 0 0 0)), (Go.Eng.AV.sc (Go.Eng.SV.str s))], [(Option.some (Go.Eng.HE.mk Bool.false (Go.Eng.HB.exp Option.none [(Go.Eng.SV.slc 1 Option.none b), (Go.Eng.SV.int Go.IntKind.i64 n), (Go.Eng.SV.int Go.IntKind.u64 n1), (Go.Eng.SV.int Go.IntKind.i64 n2)]))), (Option.some (Go.Eng.HE.mk Bool.true (Go.Eng.HB.rows (Go.Sa.B.u8 l))))] => g_spec_l01Src_spoil_Wr N s b n n1 n2 l (fun s1 n13 n14 => K (Go.Eng.AV.sc (Go.Eng.SV.str s1)) [(Option.some (Go.Eng.HE.mk Bool.false (Go.Eng.HB.exp Option.none [(Go.Eng.SV.slc 1 Option.none b), (Go.Eng.SV.int Go.IntKind.i64 n13), (Go.Eng.SV.int Go.IntKind.u64 n14), (Go.Eng.SV.int Go.IntKind.i64 n2)]))), (Option.some (Go.Eng.HE.mk Bool.true (Go.Eng.HB.rows (Go.Sa.B.u8 l))))])
  | _, _ => none
theorem o_spec_l01Src_spoil_Wr_ok (N : Nat) : FnOk E 98 (o_spec_l01Src_spoil_Wr N) := by
  intro R args H K r h
  unfold o_spec_l01Src_spoil_Wr at h
  dsimp only at h
  split at h
  · exact fnB_ok (ids := []) (top := []) ok (O_spec_l01Src_spoil_Wr_ok N) (jn_ok _ _ _) Go.Proofs.Try.func98 (by kernel_rfl) (IT := noIt) (sl := sl_spec_l01Src_spoil_Wr) (J := J_spec_l01Src_spoil_Wr) (K := K) (H := [(Option.some (Go.Eng.HE.mk Bool.false (Go.Eng.HB.exp Option.none [(Go.Eng.SV.slc 1 Option.none _), (Go.Eng.SV.int Go.IntKind.i64 _), (Go.Eng.SV.int Go.IntKind.u64 _), (Go.Eng.SV.int Go.IntKind.i64 _)]))), (Option.some (Go.Eng.HE.mk Bool.true (Go.Eng.HB.rows (Go.Sa.B.u8 _))))]) (noIt_ok) (by kernel_rfl) rfl ((e_spec_l01Src_spoil_Wr N _ _ _ _ _ _ K).trans h)
  · cases h
/-! ### loop.example/g00038/spec.DrawUnseal -/
abbrev sl_spec_DrawUnseal_r : SlotT := []
abbrev J_spec_DrawUnseal_r : JT := jn [] [] []
noncomputable def O_spec_DrawUnseal_r (N : Nat) : Orc E := addFn 98 (o_spec_l01Src_spoil_Wr N) (addFn 97 (o_spec_l01Ints_w N) (addFn 91 (o_spec_l01Src_n_Wr N) (addFn 12 (o_spec_Seal_w N) (addFn 45 (o_spec_DrawSeal_r N) (addFn 61 (o_spec_l01Source_r N) (noFn))))))
def pa_spec_DrawUnseal_r__o_spec_l01Src_spoil_Wr (N : Nat) (G_spec_l01Src_spoil_Wr : ∀ {R : Type} (s : ByteArray) (b : Bool) (n : Int) (n1 : Int) (n2 : Int) (l : List Int) (k : ByteArray → Int → Int → Option R), Option R) (G_spec_l01Ints_w : ∀ {R : Type} (b : Bool) (l : List Int) (k : Bool → (List Int) → Option R), Option R) (G_spec_l01Src_n_Wr : ∀ {R : Type} (n : Int) (b : Bool) (n1 : Int) (n2 : Int) (n3 : Int) (l : List Int) (k : Int → Int → Int → Option R), Option R) (G_spec_Seal_w : ∀ {R : Type} (s : ByteArray) (b : Bool) (n : Int) (s1 : ByteArray) (l : List Int) (k : Int → Int → ByteArray → ByteArray → Option R), Option R) (G_spec_DrawSeal_r : ∀ {R : Type} (b : Bool) (l : List Int) (k : ByteArray → Bool → Int → ByteArray → (List Int) → Option R), Option R) (G_spec_l01Source_r : ∀ {R : Type} (b : Bool) (l : List Int) (k : Int → Int → Option R), Option R) {R : Type} (args : List AV) (H : Hp E) (K : AV → Hp E → Option R) : Option R :=
  match args, H with
  | [(Go.Eng.AV.sc (Go.Eng.SV.ptr 0 0 0)), (Go.Eng.AV.sc (Go.Eng.SV.str s))], [(Option.some (Go.Eng.HE.mk Bool.false (Go.Eng.HB.exp Option.none [(Go.Eng.SV.slc 1 Option.none b), (Go.Eng.SV.int Go.IntKind.i64 n), (Go.Eng.SV.int Go.IntKind.u64 n1), (Go.Eng.SV.int Go.IntKind.i64 n2)]))), (Option.some (Go.Eng.HE.mk Bool.true (Go.Eng.HB.rows (Go.Sa.B.u8 l))))] => G_spec_l01Src_spoil_Wr s b n n1 n2 l (fun s1 n13 n14 => K (Go.Eng.AV.sc (Go.Eng.SV.str s1)) [(Option.some (Go.Eng.HE.mk Bool.false (Go.Eng.HB.exp Option.none [(Go.Eng.SV.slc 1 Option.none b), (Go.Eng.SV.int Go.IntKind.i64 n13), (Go.Eng.SV.int Go.IntKind.u64 n14), (Go.Eng.SV.int Go.IntKind.i64 n2)]))), (Option.some (Go.Eng.HE.mk Bool.true (Go.Eng.HB.rows (Go.Sa.B.u8 l))))])
  | _, _ => none
def pa_spec_DrawUnseal_r__o_spec_l01Ints_w (N : Nat) (G_spec_l01Src_spoil_Wr : ∀ {R : Type} (s : ByteArray) (b : Bool) (n : Int) (n1 : Int) (n2 : Int) (l : List Int) (k : ByteArray → Int → Int → Option R), Option R) (G_spec_l01Ints_w : ∀ {R : Type} (b : Bool) (l : List Int) (k : Bool → (List Int) → Option R), Option R) (G_spec_l01Src_n_Wr : ∀ {R : Type} (n : Int) (b : Bool) (n1 : Int) (n2 : Int) (n3 : Int) (l : List Int) (k : Int → Int → Int → Option R), Option R) (G_spec_Seal_w : ∀ {R : Type} (s : ByteArray) (b : Bool) (n : Int) (s1 : ByteArray) (l : List Int) (k : Int → Int → ByteArray → ByteArray → Option R), Option R) (G_spec_DrawSeal_r : ∀ {R : Type} (b : Bool) (l : List Int) (k : ByteArray → Bool → Int → ByteArray → (List Int) → Option R), Option R) (G_spec_l01Source_r : ∀ {R : Type} (b : Bool) (l : List Int) (k : Int → Int → Option R), Option R) {R : Type} (args : List AV) (H : Hp E) (K : AV → Hp E → Option R) : Option R :=
  match args, H with
  | [(Go.Eng.AV.sc (Go.Eng.SV.slc 0 Option.none b))], [(Option.some (Go.Eng.HE.mk Bool.false (Go.Eng.HB.rows (Go.Sa.B.i64 l))))] => G_spec_l01Ints_w b l (fun b1 l1 => K (Go.Eng.AV.sc (Go.Eng.SV.slc 1 Option.none b1)) [(Option.some (Go.Eng.HE.mk Bool.false (Go.Eng.HB.rows (Go.Sa.B.i64 l)))), (Option.some (Go.Eng.HE.mk Bool.false (Go.Eng.HB.rows (Go.Sa.B.i64 l1))))])
  | _, _ => none
def pa_spec_DrawUnseal_r__o_spec_l01Src_n_Wr (N : Nat) (G_spec_l01Src_spoil_Wr : ∀ {R : Type} (s : ByteArray) (b : Bool) (n : Int) (n1 : Int) (n2 : Int) (l : List Int) (k : ByteArray → Int → Int → Option R), Option R) (G_spec_l01Ints_w : ∀ {R : Type} (b : Bool) (l : List Int) (k : Bool → (List Int) → Option R), Option R) (G_spec_l01Src_n_Wr : ∀ {R : Type} (n : Int) (b : Bool) (n1 : Int) (n2 : Int) (n3 : Int) (l : List Int) (k : Int → Int → Int → Option R), Option R) (G_spec_Seal_w : ∀ {R : Type} (s : ByteArray) (b : Bool) (n : Int) (s1 : ByteArray) (l : List Int) (k : Int → Int → ByteArray → ByteArray → Option R), Option R) (G_spec_DrawSeal_r : ∀ {R : Type} (b : Bool) (l : List Int) (k : ByteArray → Bool → Int → ByteArray → (List Int) → Option R), Option R) (G_spec_l01Source_r : ∀ {R : Type} (b : Bool) (l : List Int) (k : Int → Int → Option R), Option R) {R : Type} (args : List AV) (H : Hp E) (K : AV → Hp E → Option R) : Option R :=
  match args, H with
  | [(Go.Eng.AV.sc (Go.Eng.SV.ptr 0 0 0)), (Go.Eng.AV.sc (Go.Eng.SV.int Go.IntKind.i64 n))], [(Option.some (Go.Eng.HE.mk Bool.false (Go.Eng.HB.exp Option.none [(Go.Eng.SV.slc 1 Option.none b), (Go.Eng.SV.int Go.IntKind.i64 n1), (Go.Eng.SV.int Go.IntKind.u64 n2), (Go.Eng.SV.int Go.IntKind.i64 n3)]))), (Option.some (Go.Eng.HE.mk Bool.true (Go.Eng.HB.rows (Go.Sa.B.u8 l))))] => G_spec_l01Src_n_Wr n b n1 n2 n3 l (fun n4 n5 n6 => K (Go.Eng.AV.sc (Go.Eng.SV.int Go.IntKind.i64 n4)) [(Option.some (Go.Eng.HE.mk Bool.false (Go.Eng.HB.exp Option.none [(Go.Eng.SV.slc 1 Option.none b), (Go.Eng.SV.int Go.IntKind.i64 n5), (Go.Eng.SV.int Go.IntKind.u64 n6), (Go.Eng.SV.int Go.IntKind.i64 n3)]))), (Option.some (Go.Eng.HE.mk Bool.true (Go.Eng.HB.rows (Go.Sa.B.u8 l))))])
  | _, _ => none
def pa_spec_DrawUnseal_r__o_spec_Seal_w (N : Nat) (G_spec_l01Src_spoil_Wr : ∀ {R : Type} (s : ByteArray) (b : Bool) (n : Int) (n1 : Int) (n2 : Int) (l : List Int) (k : ByteArray → Int → Int → Option R), Option R) (G_spec_l01Ints_w : ∀ {R : Type} (b : Bool) (l : List Int) (k : Bool → (List Int) → Option R), Option R) (G_spec_l01Src_n_Wr : ∀ {R : Type} (n : Int) (b : Bool) (n1 : Int) (n2 : Int) (n3 : Int) (l : List Int) (k : Int → Int → Int → Option R), Option R) (G_spec_Seal_w : ∀ {R : Type} (s : ByteArray) (b : Bool) (n : Int) (s1 : ByteArray) (l : List Int) (k : Int → Int → ByteArray → ByteArray → Option R), Option R) (G_spec_DrawSeal_r : ∀ {R : Type} (b : Bool) (l : List Int) (k : ByteArray → Bool → Int → ByteArray → (List Int) → Option R), Option R) (G_spec_l01Source_r : ∀ {R : Type} (b : Bool) (l : List Int) (k : Int → Int → Option R), Option R) {R : Type} (args : List AV) (H : Hp E) (K : AV → Hp E → Option R) : Option R :=
  match args, H with
  | [(Go.Eng.AV.sc (Go.Eng.SV.str s)), (Go.Eng.AV.sc (Go.Eng.SV.slc 0 Option.none b)), (Go.Eng.AV.sc (Go.Eng.SV.int Go.IntKind.i64 n)), (Go.Eng.AV.sc (Go.Eng.SV.str s1))], [(Option.some (Go.Eng.HE.mk Bool.false (Go.Eng.HB.rows (Go.Sa.B.i64 l))))] => G_spec_Seal_w s b n s1 l (fun n1 n2 s5 s6 => K (Go.Eng.AV.agg [(Go.Eng.SV.int Go.IntKind.i64 n1), (Go.Eng.SV.int Go.IntKind.i64 n2), (Go.Eng.SV.str s5), (Go.Eng.SV.str s6)]) [(Option.some (Go.Eng.HE.mk Bool.false (Go.Eng.HB.rows (Go.Sa.B.i64 l))))])
  | _, _ => none
def pa_spec_DrawUnseal_r__o_spec_DrawSeal_r (N : Nat) (G_spec_l01Src_spoil_Wr : ∀ {R : Type} (s : ByteArray) (b : Bool) (n : Int) (n1 : Int) (n2 : Int) (l : List Int) (k : ByteArray → Int → Int → Option R), Option R) (G_spec_l01Ints_w : ∀ {R : Type} (b : Bool) (l : List Int) (k : Bool → (List Int) → Option R), Option R) (G_spec_l01Src_n_Wr : ∀ {R : Type} (n : Int) (b : Bool) (n1 : Int) (n2 : Int) (n3 : Int) (l : List Int) (k : Int → Int → Int → Option R), Option R) (G_spec_Seal_w : ∀ {R : Type} (s : ByteArray) (b : Bool) (n : Int) (s1 : ByteArray) (l : List Int) (k : Int → Int → ByteArray → ByteArray → Option R), Option R) (G_spec_DrawSeal_r : ∀ {R : Type} (b : Bool) (l : List Int) (k : ByteArray → Bool → Int → ByteArray → (List Int) → Option R), Option R) (G_spec_l01Source_r : ∀ {R : Type} (b : Bool) (l : List Int) (k : Int → Int → Option R), Option R) {R : Type} (args : List AV) (H : Hp E) (K : AV → Hp E → Option R) : Option R :=
  match args, H with
  | [(Go.Eng.AV.sc (Go.Eng.SV.slc 0 Option.none b))], [(Option.some (Go.Eng.HE.mk Bool.true (Go.Eng.HB.rows (Go.Sa.B.u8 l))))] => G_spec_DrawSeal_r b l (fun s4 b3 n20 s5 l2 => K (Go.Eng.AV.tup [(Bool.false, [(Go.Eng.SV.str s4)]), (Bool.false, [(Go.Eng.SV.slc 1 Option.none b3)]), (Bool.false, [(Go.Eng.SV.int Go.IntKind.i64 n20)]), (Bool.false, [(Go.Eng.SV.str s5)])]) [(Option.some (Go.Eng.HE.mk Bool.true (Go.Eng.HB.rows (Go.Sa.B.u8 l)))), (Option.some (Go.Eng.HE.mk Bool.false (Go.Eng.HB.rows (Go.Sa.B.i64 l2))))])
  | _, _ => none
def pa_spec_DrawUnseal_r__o_spec_l01Source_r (N : Nat) (G_spec_l01Src_spoil_Wr : ∀ {R : Type} (s : ByteArray) (b : Bool) (n : Int) (n1 : Int) (n2 : Int) (l : List Int) (k : ByteArray → Int → Int → Option R), Option R) (G_spec_l01Ints_w : ∀ {R : Type} (b : Bool) (l : List Int) (k : Bool → (List Int) → Option R), Option R) (G_spec_l01Src_n_Wr : ∀ {R : Type} (n : Int) (b : Bool) (n1 : Int) (n2 : Int) (n3 : Int) (l : List Int) (k : Int → Int → Int → Option R), Option R) (G_spec_Seal_w : ∀ {R : Type} (s : ByteArray) (b : Bool) (n : Int) (s1 : ByteArray) (l : List Int) (k : Int → Int → ByteArray → ByteArray → Option R), Option R) (G_spec_DrawSeal_r : ∀ {R : Type} (b : Bool) (l : List Int) (k : ByteArray → Bool → Int → ByteArray → (List Int) → Option R), Option R) (G_spec_l01Source_r : ∀ {R : Type} (b : Bool) (l : List Int) (k : Int → Int → Option R), Option R) {R : Type} (args : List AV) (H : Hp E) (K : AV → Hp E → Option R) : Option R :=
  match args, H with
  | [(Go.Eng.AV.sc (Go.Eng.SV.slc 0 Option.none b))], [(Option.some (Go.Eng.HE.mk Bool.true (Go.Eng.HB.rows (Go.Sa.B.u8 l))))] => G_spec_l01Source_r b l (fun n5 n6 => K (Go.Eng.AV.sc (Go.Eng.SV.ptr 1 0 0)) [(Option.some (Go.Eng.HE.mk Bool.true (Go.Eng.HB.rows (Go.Sa.B.u8 l)))), (Option.some (Go.Eng.HE.mk Bool.false (Go.Eng.HB.exp Option.none [(Go.Eng.SV.slc 0 Option.none b), (Go.Eng.SV.int Go.IntKind.i64 (0 : Int)), (Go.Eng.SV.int Go.IntKind.u64 n5), (Go.Eng.SV.int Go.IntKind.i64 n6)])))])
  | _, _ => none
noncomputable def OA_spec_DrawUnseal_r (N : Nat) (G_spec_l01Src_spoil_Wr : ∀ {R : Type} (s : ByteArray) (b : Bool) (n : Int) (n1 : Int) (n2 : Int) (l : List Int) (k : ByteArray → Int → Int → Option R), Option R) (G_spec_l01Ints_w : ∀ {R : Type} (b : Bool) (l : List Int) (k : Bool → (List Int) → Option R), Option R) (G_spec_l01Src_n_Wr : ∀ {R : Type} (n : Int) (b : Bool) (n1 : Int) (n2 : Int) (n3 : Int) (l : List Int) (k : Int → Int → Int → Option R), Option R) (G_spec_Seal_w : ∀ {R : Type} (s : ByteArray) (b : Bool) (n : Int) (s1 : ByteArray) (l : List Int) (k : Int → Int → ByteArray → ByteArray → Option R), Option R) (G_spec_DrawSeal_r : ∀ {R : Type} (b : Bool) (l : List Int) (k : ByteArray → Bool → Int → ByteArray → (List Int) → Option R), Option R) (G_spec_l01Source_r : ∀ {R : Type} (b : Bool) (l : List Int) (k : Int → Int → Option R), Option R) : Orc E := addFn 98 (pa_spec_DrawUnseal_r__o_spec_l01Src_spoil_Wr N G_spec_l01Src_spoil_Wr G_spec_l01Ints_w G_spec_l01Src_n_Wr G_spec_Seal_w G_spec_DrawSeal_r G_spec_l01Source_r) (addFn 97 (pa_spec_DrawUnseal_r__o_spec_l01Ints_w N G_spec_l01Src_spoil_Wr G_spec_l01Ints_w G_spec_l01Src_n_Wr G_spec_Seal_w G_spec_DrawSeal_r G_spec_l01Source_r) (addFn 91 (pa_spec_DrawUnseal_r__o_spec_l01Src_n_Wr N G_spec_l01Src_spoil_Wr G_spec_l01Ints_w G_spec_l01Src_n_Wr G_spec_Seal_w G_spec_DrawSeal_r G_spec_l01Source_r) (addFn 12 (pa_spec_DrawUnseal_r__o_spec_Seal_w N G_spec_l01Src_spoil_Wr G_spec_l01Ints_w G_spec_l01Src_n_Wr G_spec_Seal_w G_spec_DrawSeal_r G_spec_l01Source_r) (addFn 45 (pa_spec_DrawUnseal_r__o_spec_DrawSeal_r N G_spec_l01Src_spoil_Wr G_spec_l01Ints_w G_spec_l01Src_n_Wr G_spec_Seal_w G_spec_DrawSeal_r G_spec_l01Source_r) (addFn 61 (pa_spec_DrawUnseal_r__o_spec_l01Source_r N G_spec_l01Src_spoil_Wr G_spec_l01Ints_w G_spec_l01Src_n_Wr G_spec_Seal_w G_spec_DrawSeal_r G_spec_l01Source_r) (noFn))))))
theorem O_spec_DrawUnseal_r_ok (N : Nat) : OrcOk (O_spec_DrawUnseal_r N) := addFn_ok (o_spec_l01Src_spoil_Wr_ok N) (addFn_ok (o_spec_l01Ints_w_ok N) (addFn_ok (o_spec_l01Src_n_Wr_ok N) (addFn_ok (o_spec_Seal_w_ok N) (addFn_ok (o_spec_DrawSeal_r_ok N) (addFn_ok (o_spec_l01Source_r_ok N) (noFn_ok))))))
def g_spec_DrawUnseal_r (N : Nat) {R : Type} (b : Bool) (l : List Int) (k : ByteArray → Bool → Int → Int → ByteArray → ByteArray → (List Int) → Option R) : Option R :=
  (g_spec_l01Source_r N b l fun n n1 =>
  (g_spec_DrawSeal_r N b l fun s b1 n2 s1 l1 =>
  (g_spec_Seal_w N s b1 n2 s1 l1 fun n3 n4 s2 s3 =>
  (g_spec_l01Src_n_Wr N (8 : Int) b (0 : Int) n n1 l fun n5 n6 n7 =>
  (cond (n5 == (0 : Int))
  (cond (Nat.ble ((ByteArray.size s) + 1) 9223372036854775807)
    (k (s ++ (ByteArray.mk (List.toArray [(120 : UInt8)]))) b1 n3 n4 s2 s3 l1)
    none)
  (cond (n5 == (1 : Int))
    (cond (decide (((((List.length l1) : Nat) : Int) > (0 : Int))))
      (g_spec_l01Ints_w N b1 l1 fun b2 l2 =>
        (cond (decide (((0 : Int) < (((List.length l2) : Nat) : Int))))
        (elemK l2 0 fun x =>
          (cond (decide (((0 : Int) < (((List.length l2) : Nat) : Int))))
          (elemK l2 0 fun x1 =>
            (cond (Nat.blt 0 (List.length l2))
            (k s b2 n3 n4 s2 s3 (Go.Eng.nset l2 0 (Int.tmod (Go.IntKind.wrap Go.IntKind.i64 (x + (1 : Int))) (7 : Int))))
            none))
          none))
        none))
      (k s b1 n3 n4 s2 s3 l1))
    (cond (n5 == (2 : Int))
      (g_spec_l01Src_spoil_Wr N s2 b n6 n7 n1 l fun s4 n8 n9 =>
        (k s b1 n3 n4 s4 s3 l1))
      (cond (n5 == (3 : Int))
        (g_spec_l01Src_spoil_Wr N s3 b n6 n7 n1 l fun s5 n10 n11 =>
          (k s b1 n3 n4 s2 s5 l1))
        (cond (n5 == (4 : Int))
          (k s b1 n3 (Go.IntKind.wrap Go.IntKind.i64 (((BitVec.toNat ((BitVec.ofInt 64 n4) ^^^ (BitVec.ofInt 64 (1 : Int)))) : Nat) : Int)) s2 s3 l1)
          (k s b1 n3 n4 s2 s3 l1))))))))))
def ga_g_spec_DrawUnseal_r (N : Nat) (G_spec_l01Src_spoil_Wr : ∀ {R : Type} (s : ByteArray) (b : Bool) (n : Int) (n1 : Int) (n2 : Int) (l : List Int) (k : ByteArray → Int → Int → Option R), Option R) (G_spec_l01Ints_w : ∀ {R : Type} (b : Bool) (l : List Int) (k : Bool → (List Int) → Option R), Option R) (G_spec_l01Src_n_Wr : ∀ {R : Type} (n : Int) (b : Bool) (n1 : Int) (n2 : Int) (n3 : Int) (l : List Int) (k : Int → Int → Int → Option R), Option R) (G_spec_Seal_w : ∀ {R : Type} (s : ByteArray) (b : Bool) (n : Int) (s1 : ByteArray) (l : List Int) (k : Int → Int → ByteArray → ByteArray → Option R), Option R) (G_spec_DrawSeal_r : ∀ {R : Type} (b : Bool) (l : List Int) (k : ByteArray → Bool → Int → ByteArray → (List Int) → Option R), Option R) (G_spec_l01Source_r : ∀ {R : Type} (b : Bool) (l : List Int) (k : Int → Int → Option R), Option R) {R : Type} (b : Bool) (l : List Int) (k : ByteArray → Bool → Int → Int → ByteArray → ByteArray → (List Int) → Option R) : Option R :=
  (G_spec_l01Source_r b l fun n n1 =>
  (G_spec_DrawSeal_r b l fun s b1 n2 s1 l1 =>
  (G_spec_Seal_w s b1 n2 s1 l1 fun n3 n4 s2 s3 =>
  (G_spec_l01Src_n_Wr (8 : Int) b (0 : Int) n n1 l fun n5 n6 n7 =>
  (cond (n5 == (0 : Int))
  (cond (Nat.ble ((ByteArray.size s) + 1) 9223372036854775807)
    (k (s ++ (ByteArray.mk (List.toArray [(120 : UInt8)]))) b1 n3 n4 s2 s3 l1)
    none)
  (cond (n5 == (1 : Int))
    (cond (decide (((((List.length l1) : Nat) : Int) > (0 : Int))))
      (G_spec_l01Ints_w b1 l1 fun b2 l2 =>
        (cond (decide (((0 : Int) < (((List.length l2) : Nat) : Int))))
        (elemK l2 0 fun x =>
          (cond (decide (((0 : Int) < (((List.length l2) : Nat) : Int))))
          (elemK l2 0 fun x1 =>
            (cond (Nat.blt 0 (List.length l2))
            (k s b2 n3 n4 s2 s3 (Go.Eng.nset l2 0 (Int.tmod (Go.IntKind.wrap Go.IntKind.i64 (x + (1 : Int))) (7 : Int))))
            none))
          none))
        none))
      (k s b1 n3 n4 s2 s3 l1))
    (cond (n5 == (2 : Int))
      (G_spec_l01Src_spoil_Wr s2 b n6 n7 n1 l fun s4 n8 n9 =>
        (k s b1 n3 n4 s4 s3 l1))
      (cond (n5 == (3 : Int))
        (G_spec_l01Src_spoil_Wr s3 b n6 n7 n1 l fun s5 n10 n11 =>
          (k s b1 n3 n4 s2 s5 l1))
        (cond (n5 == (4 : Int))
          (k s b1 n3 (Go.IntKind.wrap Go.IntKind.i64 (((BitVec.toNat ((BitVec.ofInt 64 n4) ^^^ (BitVec.ofInt 64 (1 : Int)))) : Nat) : Int)) s2 s3 l1)
          (k s b1 n3 n4 s2 s3 l1))))))))))
theorem ea_e_spec_DrawUnseal_r (N : Nat) (G_spec_l01Src_spoil_Wr : ∀ {R : Type} (s : ByteArray) (b : Bool) (n : Int) (n1 : Int) (n2 : Int) (l : List Int) (k : ByteArray → Int → Int → Option R), Option R) (G_spec_l01Ints_w : ∀ {R : Type} (b : Bool) (l : List Int) (k : Bool → (List Int) → Option R), Option R) (G_spec_l01Src_n_Wr : ∀ {R : Type} (n : Int) (b : Bool) (n1 : Int) (n2 : Int) (n3 : Int) (l : List Int) (k : Int → Int → Int → Option R), Option R) (G_spec_Seal_w : ∀ {R : Type} (s : ByteArray) (b : Bool) (n : Int) (s1 : ByteArray) (l : List Int) (k : Int → Int → ByteArray → ByteArray → Option R), Option R) (G_spec_DrawSeal_r : ∀ {R : Type} (b : Bool) (l : List Int) (k : ByteArray → Bool → Int → ByteArray → (List Int) → Option R), Option R) (G_spec_l01Source_r : ∀ {R : Type} (b : Bool) (l : List Int) (k : Int → Int → Option R), Option R) {R : Type} (b : Bool) (l : List Int) (K : AV → Hp E → Option R) :
    runFnI (E := E) (OA_spec_DrawUnseal_r N G_spec_l01Src_spoil_Wr G_spec_l01Ints_w G_spec_l01Src_n_Wr G_spec_Seal_w G_spec_DrawSeal_r G_spec_l01Source_r) (noIt) sl_spec_DrawUnseal_r J_spec_DrawUnseal_r Go.Proofs.Try.f47 [(Go.Eng.AV.sc (Go.Eng.SV.slc 0 Option.none b))] [(Option.some (Go.Eng.HE.mk Bool.true (Go.Eng.HB.rows (Go.Sa.B.u8 l))))] K =
      ga_g_spec_DrawUnseal_r N G_spec_l01Src_spoil_Wr G_spec_l01Ints_w G_spec_l01Src_n_Wr G_spec_Seal_w G_spec_DrawSeal_r G_spec_l01Source_r b l (fun s6 b3 n12 n13 s7 s8 l3 => K (Go.Eng.AV.tup [(Bool.false, [(Go.Eng.SV.str s6)]), (Bool.false, [(Go.Eng.SV.slc 1 Option.none b3)]), (Bool.true, [(Go.Eng.SV.int Go.IntKind.i64 n12), (Go.Eng.SV.int Go.IntKind.i64 n13), (Go.Eng.SV.str s7), (Go.Eng.SV.str s8)])]) [(Option.some (Go.Eng.HE.mk Bool.true (Go.Eng.HB.rows (Go.Sa.B.u8 l)))), (Option.some (Go.Eng.HE.mk Bool.false (Go.Eng.HB.rows (Go.Sa.B.i64 l3))))]) := by kernel_rfl
theorem e_spec_DrawUnseal_r (N : Nat) {R : Type} (b : Bool) (l : List Int) (K : AV → Hp E → Option R) :
    runFnI (E := E) (O_spec_DrawUnseal_r N) (noIt) sl_spec_DrawUnseal_r J_spec_DrawUnseal_r Go.Proofs.Try.f47 [(Go.Eng.AV.sc (Go.Eng.SV.slc 0 Option.none b))] [(Option.some (Go.Eng.HE.mk Bool.true (Go.Eng.HB.rows (Go.Sa.B.u8 l))))] K =
      g_spec_DrawUnseal_r N b l (fun s6 b3 n12 n13 s7 s8 l3 => K (Go.Eng.AV.tup [(Bool.false, [(Go.Eng.SV.str s6)]), (Bool.false, [(Go.Eng.SV.slc 1 Option.none b3)]), (Bool.true, [(Go.Eng.SV.int Go.IntKind.i64 n12), (Go.Eng.SV.int Go.IntKind.i64 n13), (Go.Eng.SV.str s7), (Go.Eng.SV.str s8)])]) [(Option.some (Go.Eng.HE.mk Bool.true (Go.Eng.HB.rows (Go.Sa.B.u8 l)))), (Option.some (Go.Eng.HE.mk Bool.false (Go.Eng.HB.rows (Go.Sa.B.i64 l3))))]) := castPr (by kernel_rfl) (ea_e_spec_DrawUnseal_r N (g_spec_l01Src_spoil_Wr N) (g_spec_l01Ints_w N) (g_spec_l01Src_n_Wr N) (g_spec_Seal_w N) (g_spec_DrawSeal_r N) (g_spec_l01Source_r N) b l K)
def o_spec_DrawUnseal_r (N : Nat) {R : Type} (args : List AV) (H : Hp E) (K : AV → Hp E → Option R) : Option R :=
  match args, H with
  | [(Go.Eng.AV.sc (Go.Eng.SV.slc 0 Option.none b))], [(Option.some (Go.Eng.HE.mk Bool.true (Go.Eng.HB.rows (Go.Sa.B.u8 l))))] => g_spec_DrawUnseal_r N b l (fun s6 b3 n12 n13 s7 s8 l3 => K (Go.Eng.AV.tup [(Bool.false, [(Go.Eng.SV.str s6)]), (Bool.false, [(Go.Eng.SV.slc 1 Option.none b3)]), (Bool.true, [(Go.Eng.SV.int Go.IntKind.i64 n12), (Go.Eng.SV.int Go.IntKind.i64 n13), (Go.Eng.SV.str s7), (Go.Eng.SV.str s8)])]) [(Option.some (Go.Eng.HE.mk Bool.true (Go.Eng.HB.rows (Go.Sa.B.u8 l)))), (Option.some (Go.Eng.HE.mk Bool.false (Go.Eng.HB.rows (Go.Sa.B.i64 l3))))])
  | _, _ => none
theorem o_spec_DrawUnseal_r_ok (N : Nat) : FnOk E 47 (o_spec_DrawUnseal_r N) := by
  intro R args H K r h
  unfold o_spec_DrawUnseal_r at h
  dsimp only at h
  split at h
  · exact fnB_ok (ids := []) (top := []) ok (O_spec_DrawUnseal_r_ok N) (jn_ok _ _ _) Go.Proofs.Try.func47 (by kernel_rfl) (IT := noIt) (sl := sl_spec_DrawUnseal_r) (J := J_spec_DrawUnseal_r) (K := K) (H := [(Option.some (Go.Eng.HE.mk Bool.true (Go.Eng.HB.rows (Go.Sa.B.u8 _))))]) (noIt_ok) (by kernel_rfl) rfl ((e_spec_DrawUnseal_r N _ _ K).trans h)
  · cases h
/-! ### loop.example/g00038/spec.l15Mask -/
abbrev sl_spec_l15Mask_r : SlotT := []
abbrev J_spec_l15Mask_r : JT := jn [(1, [(4, .b)])] [] []
noncomputable def O_spec_l15Mask_r (N : Nat) : Orc E := addFn 73 (o_spec_l15Regs_r N) (noFn)
theorem O_spec_l15Mask_r_ok (N : Nat) : OrcOk (O_spec_l15Mask_r N) := addFn_ok (o_spec_l15Regs_r_ok N) (noFn_ok)
def g_spec_l15Mask_r (N : Nat) {R : Type} (b : Bool) (n : Int) (l : List Int) (k : Bool → Option R) : Option R :=
  (oK (g_spec_l15Regs_r N b l fun b1 =>
    (cond b1
    (cond (decide ((n ≥ (0 : Int))))
      (some (decide ((n < (Go.IntKind.wrap Go.IntKind.i64 ((1 : Int) * ((2 : Int) ^ (Min.min (Int.toNat (Go.IntKind.wrap Go.IntKind.u64 (((List.length l) : Nat) : Int))) 64))))))))
      (some Bool.false))
    (some Bool.false))) fun j =>
  (k j))
theorem e_spec_l15Mask_r (N : Nat) {R : Type} (b : Bool) (n : Int) (l : List Int) (K : AV → Hp E → Option R) :
    runFnI (E := E) (O_spec_l15Mask_r N) (noIt) sl_spec_l15Mask_r J_spec_l15Mask_r Go.Proofs.Try.f54 [(Go.Eng.AV.sc (Go.Eng.SV.slc 0 Option.none b)), (Go.Eng.AV.sc (Go.Eng.SV.int Go.IntKind.i64 n))] [(Option.some (Go.Eng.HE.mk Bool.true (Go.Eng.HB.rows (Go.Sa.B.i64 l))))] K =
      g_spec_l15Mask_r N b n l (fun b2 => K (Go.Eng.AV.sc (Go.Eng.SV.bool b2)) [(Option.some (Go.Eng.HE.mk Bool.true (Go.Eng.HB.rows (Go.Sa.B.i64 l))))]) := by kernel_rfl
def o_spec_l15Mask_r (N : Nat) {R : Type} (args : List AV) (H : Hp E) (K : AV → Hp E → Option R) : Option R :=
  match args, H with
  | [(Go.Eng.AV.sc (Go.Eng.SV.slc 0 Option.none b)), (Go.Eng.AV.sc (Go.Eng.SV.int Go.IntKind.i64 n))], [(Option.some (Go.Eng.HE.mk Bool.true (Go.Eng.HB.rows (Go.Sa.B.i64 l))))] => g_spec_l15Mask_r N b n l (fun b2 => K (Go.Eng.AV.sc (Go.Eng.SV.bool b2)) [(Option.some (Go.Eng.HE.mk Bool.true (Go.Eng.HB.rows (Go.Sa.B.i64 l))))])
  | _, _ => none
theorem o_spec_l15Mask_r_ok (N : Nat) : FnOk E 54 (o_spec_l15Mask_r N) := by
  intro R args H K r h
  unfold o_spec_l15Mask_r at h
  dsimp only at h
  split at h
  · exact fnB_ok (ids := []) (top := []) ok (O_spec_l15Mask_r_ok N) (jn_ok _ _ _) Go.Proofs.Try.func54 (by kernel_rfl) (IT := noIt) (sl := sl_spec_l15Mask_r) (J := J_spec_l15Mask_r) (K := K) (H := [(Option.some (Go.Eng.HE.mk Bool.true (Go.Eng.HB.rows (Go.Sa.B.i64 _))))]) (noIt_ok) (by kernel_rfl) rfl ((e_spec_l15Mask_r N _ _ _ K).trans h)
  · cases h
/-! ### loop.example/g00038/spec.l15Key -/
abbrev sl_spec_l15Key_r : SlotT := [(0, ([0, 1, 2, 7], [0]))]
abbrev J_spec_l15Key_r : JT := jn [] [(19, [(0, .s)])] []
noncomputable def O_spec_l15Key_r (N : Nat) : Orc E := addFn 93 (o_spec_PutWord N) (noFn)
theorem O_spec_l15Key_r_ok (N : Nat) : OrcOk (O_spec_l15Key_r N) := addFn_ok (o_spec_PutWord_ok N) (noFn_ok)
def s_spec_l15Key_r_0 (N : Nat) {R : Type} (b1 : Bool) (n1 : Int) (l1 : List Int) (s1 : ByteArray) (n2 : Int) (ag : ByteArray → Int → Option R)  (kN : ByteArray → Option R) : Option R :=
  (cond (decide ((n2 < (((List.length l1) : Nat) : Int))))
  (cond (decide (((Go.IntKind.wrap Go.IntKind.u64 n2) < (0 : Int))))
    none
    (oK (cond ((Go.IntKind.wrap Go.IntKind.i64 (((BitVec.toNat ((BitVec.ofInt 64 (Int.fdiv n1 ((2 : Int) ^ (Min.min (Int.toNat (Go.IntKind.wrap Go.IntKind.u64 n2)) 64)))) &&& (BitVec.ofInt 64 (1 : Int)))) : Nat) : Int)) == (1 : Int))
        (g_spec_PutWord N n2 fun s2 =>
          (cond (Nat.ble ((ByteArray.size s1) + (ByteArray.size s2)) 9223372036854775807)
          (cond ((decide (((0 : Int) ≤ n2))) && (decide ((n2 < (((List.length l1) : Nat) : Int)))))
            (elemK l1 (Int.toNat n2) fun x =>
              (g_spec_PutWord N x fun s3 =>
              (cond (Nat.ble ((ByteArray.size (s1 ++ s2)) + (ByteArray.size s3)) 9223372036854775807)
              (some ((s1 ++ s2) ++ s3))
              none)))
            none)
          none))
        (some s1)) fun j =>
      (ag j (Go.IntKind.wrap Go.IntKind.i64 (n2 + (1 : Int))))))
  (kN s1))
def l_spec_l15Key_r_0 (N : Nat) {R : Type} (b1 : Bool) (n1 : Int) (l1 : List Int) (kN : ByteArray → Option R) : Nat → ByteArray → Int → Option R
  | 0, _, _ => none
  | f + 1, s1, n2 => s_spec_l15Key_r_0 N b1 n1 l1 s1 n2 (fun s1 n2 => l_spec_l15Key_r_0 N b1 n1 l1 kN f s1 n2)  kN
def c_spec_l15Key_r_0 (N : Nat) {R : Type} (b1 : Bool) (n1 : Int) (l1 : List Int) (s1 : ByteArray) (n2 : Int) (kN : ByteArray → Option R) : Option R := l_spec_l15Key_r_0 N b1 n1 l1 kN N s1 n2
theorem se_spec_l15Key_r_0 (N : Nat) {R : Type} (b1 : Bool) (n1 : Int) (l1 : List Int) (s1 : ByteArray) (n2 : Int) (AG : List (Option AV) → Hp E → Option R) (KL : Ex → List (Option AV) → Hp E → Option R) :
    iterStep (E := E) (O_spec_l15Key_r N) (fun {R} => LI (noIt) 1 31 sl_spec_l15Key_r (R := R)) J_spec_l15Key_r 1 31 0 [0, 1, 2, 7] [0] (body Go.Proofs.Try.f55 0) AG KL [(Option.some (Go.Eng.AV.sc (Go.Eng.SV.str s1))), (Option.some (Go.Eng.AV.sc (Go.Eng.SV.slc 0 Option.none b1))), (Option.some (Go.Eng.AV.sc (Go.Eng.SV.int Go.IntKind.i64 n1))), (Option.some (Go.Eng.AV.sc (Go.Eng.SV.int Go.IntKind.i64 n2)))] [(Option.some (Go.Eng.HE.mk Bool.true (Go.Eng.HB.rows (Go.Sa.B.i64 l1))))] =
      s_spec_l15Key_r_0 N b1 n1 l1 s1 n2 (fun s1 n2 => AG [(Option.some (Go.Eng.AV.sc (Go.Eng.SV.str s1))), (Option.some (Go.Eng.AV.sc (Go.Eng.SV.slc 0 Option.none b1))), (Option.some (Go.Eng.AV.sc (Go.Eng.SV.int Go.IntKind.i64 n1))), (Option.some (Go.Eng.AV.sc (Go.Eng.SV.int Go.IntKind.i64 n2)))] [(Option.some (Go.Eng.HE.mk Bool.true (Go.Eng.HB.rows (Go.Sa.B.i64 l1))))])  (fun s6 => KL Go.Eng.Ex.normal [(Option.some (Go.Eng.AV.sc (Go.Eng.SV.str s6)))] [(Option.some (Go.Eng.HE.mk Bool.true (Go.Eng.HB.rows (Go.Sa.B.i64 l1))))]) := by kernel_rfl
theorem le_spec_l15Key_r_0 (N : Nat) {R : Type} (b1 : Bool) (n1 : Int) (l1 : List Int) (KL : Ex → List (Option AV) → Hp E → Option R) : ∀ (f : Nat), ∀ (s1 : ByteArray) (n2 : Int), iterK (E := E) (O_spec_l15Key_r N) (fun {R} => LI (noIt) 1 31 sl_spec_l15Key_r (R := R)) J_spec_l15Key_r 1 31 0 [0, 1, 2, 7] [0] (body Go.Proofs.Try.f55 0) f [(Option.some (Go.Eng.AV.sc (Go.Eng.SV.str s1))), (Option.some (Go.Eng.AV.sc (Go.Eng.SV.slc 0 Option.none b1))), (Option.some (Go.Eng.AV.sc (Go.Eng.SV.int Go.IntKind.i64 n1))), (Option.some (Go.Eng.AV.sc (Go.Eng.SV.int Go.IntKind.i64 n2)))] [(Option.some (Go.Eng.HE.mk Bool.true (Go.Eng.HB.rows (Go.Sa.B.i64 l1))))] KL = l_spec_l15Key_r_0 N b1 n1 l1 (fun s6 => KL Go.Eng.Ex.normal [(Option.some (Go.Eng.AV.sc (Go.Eng.SV.str s6)))] [(Option.some (Go.Eng.HE.mk Bool.true (Go.Eng.HB.rows (Go.Sa.B.i64 l1))))]) f s1 n2 := by
  intro f
  induction f with
  | zero => intros; rfl
  | succ f ih =>
    intro s1 n2
    rw [iterK_succ, se_spec_l15Key_r_0]
    exact (congrArg (fun z0 => s_spec_l15Key_r_0 N b1 n1 l1 s1 n2 z0 (fun s6 => KL Go.Eng.Ex.normal [(Option.some (Go.Eng.AV.sc (Go.Eng.SV.str s6)))] [(Option.some (Go.Eng.HE.mk Bool.true (Go.Eng.HB.rows (Go.Sa.B.i64 l1))))])) (funext fun s1 => funext fun n2 => ih s1 n2))
def i_spec_l15Key_r_0 (N : Nat) {R : Type} (vs : List (Option AV)) (H : Hp E) (KL : Ex → List (Option AV) → Hp E → Option R) : Option R :=
  match vs, H with
  | [(Option.some (Go.Eng.AV.sc (Go.Eng.SV.str s1))), (Option.some (Go.Eng.AV.sc (Go.Eng.SV.slc 0 Option.none b1))), (Option.some (Go.Eng.AV.sc (Go.Eng.SV.int Go.IntKind.i64 n1))), (Option.some (Go.Eng.AV.sc (Go.Eng.SV.int Go.IntKind.i64 n2)))], [(Option.some (Go.Eng.HE.mk Bool.true (Go.Eng.HB.rows (Go.Sa.B.i64 l1))))] => c_spec_l15Key_r_0 N b1 n1 l1 s1 n2 (fun s7 => KL Go.Eng.Ex.normal [(Option.some (Go.Eng.AV.sc (Go.Eng.SV.str s7)))] [(Option.some (Go.Eng.HE.mk Bool.true (Go.Eng.HB.rows (Go.Sa.B.i64 l1))))])
  | _, _ => none
noncomputable def IT_spec_l15Key_r_0 (N : Nat) : Its E := addIt 0 (i_spec_l15Key_r_0 N) (noIt)
theorem IT_spec_l15Key_r_0_ok (N : Nat) : ItOk (IT_spec_l15Key_r_0 N) 1 31 sl_spec_l15Key_r (lsB Go.Proofs.Try.f55 [0]) :=
  addItB_ok (inner := []) ok (O_spec_l15Key_r_ok N) (jn_ok _ _ _) (noIt_ok) rfl (by kernel_rfl) rfl fun vs H KL r h => by
    unfold i_spec_l15Key_r_0 at h
    split at h
    · exact ⟨_, (le_spec_l15Key_r_0 N _ _ _ KL N _ _).trans h⟩
    · cases h
def g_spec_l15Key_r (N : Nat) {R : Type} (s : ByteArray) (b : Bool) (n : Int) (l : List Int) (k : ByteArray → Option R) : Option R :=
  (c_spec_l15Key_r_0 N b n l s (0 : Int) fun s4 =>
  (k s4))
theorem e_spec_l15Key_r (N : Nat) {R : Type} (s : ByteArray) (b : Bool) (n : Int) (l : List Int) (K : AV → Hp E → Option R) :
    runFnI (E := E) (O_spec_l15Key_r N) (IT_spec_l15Key_r_0 N) sl_spec_l15Key_r J_spec_l15Key_r Go.Proofs.Try.f55 [(Go.Eng.AV.sc (Go.Eng.SV.str s)), (Go.Eng.AV.sc (Go.Eng.SV.slc 0 Option.none b)), (Go.Eng.AV.sc (Go.Eng.SV.int Go.IntKind.i64 n))] [(Option.some (Go.Eng.HE.mk Bool.true (Go.Eng.HB.rows (Go.Sa.B.i64 l))))] K =
      g_spec_l15Key_r N s b n l (fun s5 => K (Go.Eng.AV.sc (Go.Eng.SV.str s5)) [(Option.some (Go.Eng.HE.mk Bool.true (Go.Eng.HB.rows (Go.Sa.B.i64 l))))]) := by kernel_rfl
def o_spec_l15Key_r (N : Nat) {R : Type} (args : List AV) (H : Hp E) (K : AV → Hp E → Option R) : Option R :=
  match args, H with
  | [(Go.Eng.AV.sc (Go.Eng.SV.str s)), (Go.Eng.AV.sc (Go.Eng.SV.slc 0 Option.none b)), (Go.Eng.AV.sc (Go.Eng.SV.int Go.IntKind.i64 n))], [(Option.some (Go.Eng.HE.mk Bool.true (Go.Eng.HB.rows (Go.Sa.B.i64 l))))] => g_spec_l15Key_r N s b n l (fun s5 => K (Go.Eng.AV.sc (Go.Eng.SV.str s5)) [(Option.some (Go.Eng.HE.mk Bool.true (Go.Eng.HB.rows (Go.Sa.B.i64 l))))])
  | _, _ => none
theorem o_spec_l15Key_r_ok (N : Nat) : FnOk E 55 (o_spec_l15Key_r N) := by
  intro R args H K r h
  unfold o_spec_l15Key_r at h
  dsimp only at h
  split at h
  · exact fnB_ok (ids := [0]) (top := [0]) ok (O_spec_l15Key_r_ok N) (jn_ok _ _ _) Go.Proofs.Try.func55 (by kernel_rfl) (IT := IT_spec_l15Key_r_0 N) (sl := sl_spec_l15Key_r) (J := J_spec_l15Key_r) (K := K) (H := [(Option.some (Go.Eng.HE.mk Bool.true (Go.Eng.HB.rows (Go.Sa.B.i64 _))))]) (IT_spec_l15Key_r_0_ok N) (by kernel_rfl) rfl ((e_spec_l15Key_r N _ _ _ _ K).trans h)
  · cases h
/-! ### loop.example/g00038/spec.Unseal -/
abbrev sl_spec_Unseal_r : SlotT := []
abbrev J_spec_Unseal_r : JT := jn [(1, [(21, .b)]), (3, [(32, .b)])] [] []
noncomputable def O_spec_Unseal_r (N : Nat) : Orc E := addFn 41 (o_spec_Crypt N) (addFn 56 (o_spec_TagOf N) (addFn 55 (o_spec_l15Key_r N) (addFn 54 (o_spec_l15Mask_r N) (noFn))))
def pa_spec_Unseal_r__o_spec_Crypt (N : Nat) (G_spec_Crypt : ∀ {R : Type} (s : ByteArray) (n : Int) (s1 : ByteArray) (k : ByteArray → Option R), Option R) (G_spec_TagOf : ∀ {R : Type} (s : ByteArray) (s1 : ByteArray) (k : ByteArray → Option R), Option R) (G_spec_l15Key_r : ∀ {R : Type} (s : ByteArray) (b : Bool) (n : Int) (l : List Int) (k : ByteArray → Option R), Option R) (G_spec_l15Mask_r : ∀ {R : Type} (b : Bool) (n : Int) (l : List Int) (k : Bool → Option R), Option R) {R : Type} (args : List AV) (H : Hp E) (K : AV → Hp E → Option R) : Option R :=
  match args, H with
  | [(Go.Eng.AV.sc (Go.Eng.SV.str s)), (Go.Eng.AV.sc (Go.Eng.SV.int Go.IntKind.i64 n)), (Go.Eng.AV.sc (Go.Eng.SV.str s1))], [] => G_spec_Crypt s n s1 (fun s5 => K (Go.Eng.AV.sc (Go.Eng.SV.str s5)) [])
  | _, _ => none
def pa_spec_Unseal_r__o_spec_TagOf (N : Nat) (G_spec_Crypt : ∀ {R : Type} (s : ByteArray) (n : Int) (s1 : ByteArray) (k : ByteArray → Option R), Option R) (G_spec_TagOf : ∀ {R : Type} (s : ByteArray) (s1 : ByteArray) (k : ByteArray → Option R), Option R) (G_spec_l15Key_r : ∀ {R : Type} (s : ByteArray) (b : Bool) (n : Int) (l : List Int) (k : ByteArray → Option R), Option R) (G_spec_l15Mask_r : ∀ {R : Type} (b : Bool) (n : Int) (l : List Int) (k : Bool → Option R), Option R) {R : Type} (args : List AV) (H : Hp E) (K : AV → Hp E → Option R) : Option R :=
  match args, H with
  | [(Go.Eng.AV.sc (Go.Eng.SV.str s)), (Go.Eng.AV.sc (Go.Eng.SV.str s1))], [] => G_spec_TagOf s s1 (fun s4 => K (Go.Eng.AV.sc (Go.Eng.SV.str s4)) [])
  | _, _ => none
def pa_spec_Unseal_r__o_spec_l15Key_r (N : Nat) (G_spec_Crypt : ∀ {R : Type} (s : ByteArray) (n : Int) (s1 : ByteArray) (k : ByteArray → Option R), Option R) (G_spec_TagOf : ∀ {R : Type} (s : ByteArray) (s1 : ByteArray) (k : ByteArray → Option R), Option R) (G_spec_l15Key_r : ∀ {R : Type} (s : ByteArray) (b : Bool) (n : Int) (l : List Int) (k : ByteArray → Option R), Option R) (G_spec_l15Mask_r : ∀ {R : Type} (b : Bool) (n : Int) (l : List Int) (k : Bool → Option R), Option R) {R : Type} (args : List AV) (H : Hp E) (K : AV → Hp E → Option R) : Option R :=
  match args, H with
  | [(Go.Eng.AV.sc (Go.Eng.SV.str s)), (Go.Eng.AV.sc (Go.Eng.SV.slc 0 Option.none b)), (Go.Eng.AV.sc (Go.Eng.SV.int Go.IntKind.i64 n))], [(Option.some (Go.Eng.HE.mk Bool.true (Go.Eng.HB.rows (Go.Sa.B.i64 l))))] => G_spec_l15Key_r s b n l (fun s5 => K (Go.Eng.AV.sc (Go.Eng.SV.str s5)) [(Option.some (Go.Eng.HE.mk Bool.true (Go.Eng.HB.rows (Go.Sa.B.i64 l))))])
  | _, _ => none
def pa_spec_Unseal_r__o_spec_l15Mask_r (N : Nat) (G_spec_Crypt : ∀ {R : Type} (s : ByteArray) (n : Int) (s1 : ByteArray) (k : ByteArray → Option R), Option R) (G_spec_TagOf : ∀ {R : Type} (s : ByteArray) (s1 : ByteArray) (k : ByteArray → Option R), Option R) (G_spec_l15Key_r : ∀ {R : Type} (s : ByteArray) (b : Bool) (n : Int) (l : List Int) (k : ByteArray → Option R), Option R) (G_spec_l15Mask_r : ∀ {R : Type} (b : Bool) (n : Int) (l : List Int) (k : Bool → Option R), Option R) {R : Type} (args : List AV) (H : Hp E) (K : AV → Hp E → Option R) : Option R :=
  match args, H with
  | [(Go.Eng.AV.sc (Go.Eng.SV.slc 0 Option.none b)), (Go.Eng.AV.sc (Go.Eng.SV.int Go.IntKind.i64 n))], [(Option.some (Go.Eng.HE.mk Bool.true (Go.Eng.HB.rows (Go.Sa.B.i64 l))))] => G_spec_l15Mask_r b n l (fun b2 => K (Go.Eng.AV.sc (Go.Eng.SV.bool b2)) [(Option.some (Go.Eng.HE.mk Bool.true (Go.Eng.HB.rows (Go.Sa.B.i64 l))))])
  | _, _ => none
noncomputable def OA_spec_Unseal_r (N : Nat) (G_spec_Crypt : ∀ {R : Type} (s : ByteArray) (n : Int) (s1 : ByteArray) (k : ByteArray → Option R), Option R) (G_spec_TagOf : ∀ {R : Type} (s : ByteArray) (s1 : ByteArray) (k : ByteArray → Option R), Option R) (G_spec_l15Key_r : ∀ {R : Type} (s : ByteArray) (b : Bool) (n : Int) (l : List Int) (k : ByteArray → Option R), Option R) (G_spec_l15Mask_r : ∀ {R : Type} (b : Bool) (n : Int) (l : List Int) (k : Bool → Option R), Option R) : Orc E := addFn 41 (pa_spec_Unseal_r__o_spec_Crypt N G_spec_Crypt G_spec_TagOf G_spec_l15Key_r G_spec_l15Mask_r) (addFn 56 (pa_spec_Unseal_r__o_spec_TagOf N G_spec_Crypt G_spec_TagOf G_spec_l15Key_r G_spec_l15Mask_r) (addFn 55 (pa_spec_Unseal_r__o_spec_l15Key_r N G_spec_Crypt G_spec_TagOf G_spec_l15Key_r G_spec_l15Mask_r) (addFn 54 (pa_spec_Unseal_r__o_spec_l15Mask_r N G_spec_Crypt G_spec_TagOf G_spec_l15Key_r G_spec_l15Mask_r) (noFn))))
theorem O_spec_Unseal_r_ok (N : Nat) : OrcOk (O_spec_Unseal_r N) := addFn_ok (o_spec_Crypt_ok N) (addFn_ok (o_spec_TagOf_ok N) (addFn_ok (o_spec_l15Key_r_ok N) (addFn_ok (o_spec_l15Mask_r_ok N) (noFn_ok))))
def g_spec_Unseal_r (N : Nat) {R : Type} (s : ByteArray) (b : Bool) (n : Int) (n1 : Int) (s1 : ByteArray) (s2 : ByteArray) (l : List Int) (k : Int → ByteArray → Option R) : Option R :=
  (oK (cond (decide (((((ByteArray.size s) : Nat) : Int) > (4032 : Int))))
    (some Bool.true)
    (cond (decide (((((ByteArray.size s1) : Nat) : Int) > (4096 : Int))))
      (some Bool.true)
      (some (decide (((((List.length l) : Nat) : Int) > (1000 : Int))))))) fun j =>
  (cond j
  (k (2 : Int) (ByteArray.mk (List.toArray [])))
  (oK (cond (n != (0 : Int))
      (some Bool.true)
      (g_spec_l15Mask_r N b n1 l fun b1 =>
        (some (!b1)))) fun j1 =>
    (cond j1
    (k (1 : Int) (ByteArray.mk (List.toArray [])))
    (g_spec_l15Key_r N s b n1 l fun s3 =>
      (g_spec_TagOf N s3 s1 fun s4 =>
      (cond (!(decide ((s4 = s2))))
      (k (7 : Int) (ByteArray.mk (List.toArray [])))
      (g_spec_Crypt N s3 (1 : Int) s1 fun s5 =>
        (k (0 : Int) s5)))))))))
def ga_g_spec_Unseal_r (N : Nat) (G_spec_Crypt : ∀ {R : Type} (s : ByteArray) (n : Int) (s1 : ByteArray) (k : ByteArray → Option R), Option R) (G_spec_TagOf : ∀ {R : Type} (s : ByteArray) (s1 : ByteArray) (k : ByteArray → Option R), Option R) (G_spec_l15Key_r : ∀ {R : Type} (s : ByteArray) (b : Bool) (n : Int) (l : List Int) (k : ByteArray → Option R), Option R) (G_spec_l15Mask_r : ∀ {R : Type} (b : Bool) (n : Int) (l : List Int) (k : Bool → Option R), Option R) {R : Type} (s : ByteArray) (b : Bool) (n : Int) (n1 : Int) (s1 : ByteArray) (s2 : ByteArray) (l : List Int) (k : Int → ByteArray → Option R) : Option R :=
  (oK (cond (decide (((((ByteArray.size s) : Nat) : Int) > (4032 : Int))))
    (some Bool.true)
    (cond (decide (((((ByteArray.size s1) : Nat) : Int) > (4096 : Int))))
      (some Bool.true)
      (some (decide (((((List.length l) : Nat) : Int) > (1000 : Int))))))) fun j =>
  (cond j
  (k (2 : Int) (ByteArray.mk (List.toArray [])))
  (oK (cond (n != (0 : Int))
      (some Bool.true)
      (G_spec_l15Mask_r b n1 l fun b1 =>
        (some (!b1)))) fun j1 =>
    (cond j1
    (k (1 : Int) (ByteArray.mk (List.toArray [])))
    (G_spec_l15Key_r s b n1 l fun s3 =>
      (G_spec_TagOf s3 s1 fun s4 =>
      (cond (!(decide ((s4 = s2))))
      (k (7 : Int) (ByteArray.mk (List.toArray [])))
      (G_spec_Crypt s3 (1 : Int) s1 fun s5 =>
        (k (0 : Int) s5)))))))))
theorem ea_e_spec_Unseal_r (N : Nat) (G_spec_Crypt : ∀ {R : Type} (s : ByteArray) (n : Int) (s1 : ByteArray) (k : ByteArray → Option R), Option R) (G_spec_TagOf : ∀ {R : Type} (s : ByteArray) (s1 : ByteArray) (k : ByteArray → Option R), Option R) (G_spec_l15Key_r : ∀ {R : Type} (s : ByteArray) (b : Bool) (n : Int) (l : List Int) (k : ByteArray → Option R), Option R) (G_spec_l15Mask_r : ∀ {R : Type} (b : Bool) (n : Int) (l : List Int) (k : Bool → Option R), Option R) {R : Type} (s : ByteArray) (b : Bool) (n : Int) (n1 : Int) (s1 : ByteArray) (s2 : ByteArray) (l : List Int) (K : AV → Hp E → Option R) :
    runFnI (E := E) (OA_spec_Unseal_r N G_spec_Crypt G_spec_TagOf G_spec_l15Key_r G_spec_l15Mask_r) (noIt) sl_spec_Unseal_r J_spec_Unseal_r Go.Proofs.Try.f18 [(Go.Eng.AV.sc (Go.Eng.SV.str s)), (Go.Eng.AV.sc (Go.Eng.SV.slc 0 Option.none b)), (Go.Eng.AV.agg [(Go.Eng.SV.int Go.IntKind.i64 n), (Go.Eng.SV.int Go.IntKind.i64 n1), (Go.Eng.SV.str s1), (Go.Eng.SV.str s2)])] [(Option.some (Go.Eng.HE.mk Bool.true (Go.Eng.HB.rows (Go.Sa.B.i64 l))))] K =
      ga_g_spec_Unseal_r N G_spec_Crypt G_spec_TagOf G_spec_l15Key_r G_spec_l15Mask_r s b n n1 s1 s2 l (fun n2 s6 => K (Go.Eng.AV.agg [(Go.Eng.SV.int Go.IntKind.i64 n2), (Go.Eng.SV.str s6)]) [(Option.some (Go.Eng.HE.mk Bool.true (Go.Eng.HB.rows (Go.Sa.B.i64 l))))]) := by kernel_rfl
theorem e_spec_Unseal_r (N : Nat) {R : Type} (s : ByteArray) (b : Bool) (n : Int) (n1 : Int) (s1 : ByteArray) (s2 : ByteArray) (l : List Int) (K : AV → Hp E → Option R) :
    runFnI (E := E) (O_spec_Unseal_r N) (noIt) sl_spec_Unseal_r J_spec_Unseal_r Go.Proofs.Try.f18 [(Go.Eng.AV.sc (Go.Eng.SV.str s)), (Go.Eng.AV.sc (Go.Eng.SV.slc 0 Option.none b)), (Go.Eng.AV.agg [(Go.Eng.SV.int Go.IntKind.i64 n), (Go.Eng.SV.int Go.IntKind.i64 n1), (Go.Eng.SV.str s1), (Go.Eng.SV.str s2)])] [(Option.some (Go.Eng.HE.mk Bool.true (Go.Eng.HB.rows (Go.Sa.B.i64 l))))] K =
      g_spec_Unseal_r N s b n n1 s1 s2 l (fun n2 s6 => K (Go.Eng.AV.agg [(Go.Eng.SV.int Go.IntKind.i64 n2), (Go.Eng.SV.str s6)]) [(Option.some (Go.Eng.HE.mk Bool.true (Go.Eng.HB.rows (Go.Sa.B.i64 l))))]) := castPr (by kernel_rfl) (ea_e_spec_Unseal_r N (g_spec_Crypt N) (g_spec_TagOf N) (g_spec_l15Key_r N) (g_spec_l15Mask_r N) s b n n1 s1 s2 l K)
def o_spec_Unseal_r (N : Nat) {R : Type} (args : List AV) (H : Hp E) (K : AV → Hp E → Option R) : Option R :=
  match args, H with
  | [(Go.Eng.AV.sc (Go.Eng.SV.str s)), (Go.Eng.AV.sc (Go.Eng.SV.slc 0 Option.none b)), (Go.Eng.AV.agg [(Go.Eng.SV.int Go.IntKind.i64 n), (Go.Eng.SV.int Go.IntKind.i64 n1), (Go.Eng.SV.str s1), (Go.Eng.SV.str s2)])], [(Option.some (Go.Eng.HE.mk Bool.true (Go.Eng.HB.rows (Go.Sa.B.i64 l))))] => g_spec_Unseal_r N s b n n1 s1 s2 l (fun n2 s6 => K (Go.Eng.AV.agg [(Go.Eng.SV.int Go.IntKind.i64 n2), (Go.Eng.SV.str s6)]) [(Option.some (Go.Eng.HE.mk Bool.true (Go.Eng.HB.rows (Go.Sa.B.i64 l))))])
  | _, _ => none
theorem o_spec_Unseal_r_ok (N : Nat) : FnOk E 18 (o_spec_Unseal_r N) := by
  intro R args H K r h
  unfold o_spec_Unseal_r at h
  dsimp only at h
  split at h
  · exact fnB_ok (ids := []) (top := []) ok (O_spec_Unseal_r_ok N) (jn_ok _ _ _) Go.Proofs.Try.func18 (by kernel_rfl) (IT := noIt) (sl := sl_spec_Unseal_r) (J := J_spec_Unseal_r) (K := K) (H := [(Option.some (Go.Eng.HE.mk Bool.true (Go.Eng.HB.rows (Go.Sa.B.i64 _))))]) (noIt_ok) (by kernel_rfl) rfl ((e_spec_Unseal_r N _ _ _ _ _ _ _ K).trans h)
  · cases h
end Go.Sa
