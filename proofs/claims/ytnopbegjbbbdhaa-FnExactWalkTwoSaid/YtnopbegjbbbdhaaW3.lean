import Derived.Test.YtnopbegjbbbdhaaSpec
import Derived.Test.YtnopbegjbbbdhaaPLb
import Derived.Test.YtnopbegjbbbdhaaW2
set_option linter.all false
namespace Go.Sa
open Go Go.Eng Go.Proofs
set_option maxRecDepth 100000
/-! ### loop.example/g00038/impl.WalkTwo$2 -/
abbrev sl_impl_WalkTwo_2_WWWWWWWWw : SlotT := []
abbrev J_impl_WalkTwo_2_WWWWWWWWw : JT := jn [(5, [(42, .b)]), (13, [(78, .b)])] [(80, [(12, .i .i64)])] []
noncomputable def O_impl_WalkTwo_2_WWWWWWWWw (N : Nat) : Orc E := addFn 72 (o_impl_yputWord_w N) (addFn 134 (o_impl_WalkTwo_1_WWWw N) (addFn 139 (o_impl_yputs N) (addFn 138 (o_impl_ylets N) (addFn 136 (o_impl_WalkTwo_2_1_WWWWw N) (noFn)))))
def pa_impl_WalkTwo_2_WWWWWWWWw__o_impl_yputWord_w (N : Nat) (G_impl_yputWord_w : ∀ {R : Type} (b : Bool) (n : Int) (n1 : Int) (l : List Int) (k : (List Int) → Option R), Option R) (G_impl_WalkTwo_1_WWWw : ∀ {R : Type} (n : Int) (n1 : Int) (b : Bool) (n2 : Int) (n3 : Int) (n4 : Int) (n5 : Int) (n6 : Int) (s : ByteArray) (l : List Int) (k : Int → Bool → Int → Int → Int → (List Int) → Option R), Option R) (G_impl_yputs : ∀ {R : Type} (n : Int) (k : Int → Option R), Option R) (G_impl_ylets : ∀ {R : Type} (n : Int) (n1 : Int) (b : Bool) (k : Bool → Option R), Option R) (G_impl_WalkTwo_2_1_WWWWw : ∀ {R : Type} (n : Int) (n1 : Int) (n2 : Int) (n3 : Int) (n4 : Int) (s : ByteArray) (b : Bool) (n5 : Int) (l : List Int) (k : Int → Bool → Int → Int → Int → (List Int) → Option R), Option R) {R : Type} (args : List AV) (H : Hp E) (K : AV → Hp E → Option R) : Option R :=
  match args, H with
  | [(Go.Eng.AV.sc (Go.Eng.SV.slc 0 Option.none b)), (Go.Eng.AV.sc (Go.Eng.SV.int Go.IntKind.i64 n)), (Go.Eng.AV.sc (Go.Eng.SV.int Go.IntKind.i64 n1))], [(Option.some (Go.Eng.HE.mk Bool.false (Go.Eng.HB.rows (Go.Sa.B.u8 l))))] => G_impl_yputWord_w b n n1 l (fun l1 => K (Go.Eng.AV.tup []) [(Option.some (Go.Eng.HE.mk Bool.false (Go.Eng.HB.rows (Go.Sa.B.u8 l1))))])
  | _, _ => none
def pa_impl_WalkTwo_2_WWWWWWWWw__o_impl_WalkTwo_1_WWWw (N : Nat) (G_impl_yputWord_w : ∀ {R : Type} (b : Bool) (n : Int) (n1 : Int) (l : List Int) (k : (List Int) → Option R), Option R) (G_impl_WalkTwo_1_WWWw : ∀ {R : Type} (n : Int) (n1 : Int) (b : Bool) (n2 : Int) (n3 : Int) (n4 : Int) (n5 : Int) (n6 : Int) (s : ByteArray) (l : List Int) (k : Int → Bool → Int → Int → Int → (List Int) → Option R), Option R) (G_impl_yputs : ∀ {R : Type} (n : Int) (k : Int → Option R), Option R) (G_impl_ylets : ∀ {R : Type} (n : Int) (n1 : Int) (b : Bool) (k : Bool → Option R), Option R) (G_impl_WalkTwo_2_1_WWWWw : ∀ {R : Type} (n : Int) (n1 : Int) (n2 : Int) (n3 : Int) (n4 : Int) (s : ByteArray) (b : Bool) (n5 : Int) (l : List Int) (k : Int → Bool → Int → Int → Int → (List Int) → Option R), Option R) {R : Type} (args : List AV) (H : Hp E) (K : AV → Hp E → Option R) : Option R :=
  match args, H with
  | [(Go.Eng.AV.sc (Go.Eng.SV.int Go.IntKind.i64 n)), (Go.Eng.AV.sc (Go.Eng.SV.int Go.IntKind.i64 n1)), (Go.Eng.AV.sc (Go.Eng.SV.ptr 0 0 0)), (Go.Eng.AV.sc (Go.Eng.SV.ptr 1 0 0)), (Go.Eng.AV.sc (Go.Eng.SV.ptr 2 0 0))], [(Option.some (Go.Eng.HE.mk Bool.false (Go.Eng.HB.exp Option.none [(Go.Eng.SV.slc 3 Option.none b)]))), (Option.some (Go.Eng.HE.mk Bool.false (Go.Eng.HB.exp Option.none [(Go.Eng.SV.int Go.IntKind.i64 n2)]))), (Option.some (Go.Eng.HE.mk Bool.false (Go.Eng.HB.exp Option.none [(Go.Eng.SV.int Go.IntKind.i64 n3), (Go.Eng.SV.int Go.IntKind.i64 n4), (Go.Eng.SV.int Go.IntKind.i64 n5), (Go.Eng.SV.int Go.IntKind.i64 n6), (Go.Eng.SV.str s)]))), (Option.some (Go.Eng.HE.mk Bool.false (Go.Eng.HB.rows (Go.Sa.B.u8 l))))] => G_impl_WalkTwo_1_WWWw n n1 b n2 n3 n4 n5 n6 s l (fun n15 b2 n16 n17 n18 l2 => K (Go.Eng.AV.tup [(Bool.false, [(Go.Eng.SV.int Go.IntKind.i64 n15)]), (Bool.false, [(Go.Eng.SV.bool b2)])]) [(Option.some (Go.Eng.HE.mk Bool.false (Go.Eng.HB.exp Option.none [(Go.Eng.SV.slc 3 Option.none b)]))), (Option.some (Go.Eng.HE.mk Bool.false (Go.Eng.HB.exp Option.none [(Go.Eng.SV.int Go.IntKind.i64 n2)]))), (Option.some (Go.Eng.HE.mk Bool.false (Go.Eng.HB.exp Option.none [(Go.Eng.SV.int Go.IntKind.i64 n16), (Go.Eng.SV.int Go.IntKind.i64 n17), (Go.Eng.SV.int Go.IntKind.i64 n5), (Go.Eng.SV.int Go.IntKind.i64 n18), (Go.Eng.SV.str s)]))), (Option.some (Go.Eng.HE.mk Bool.false (Go.Eng.HB.rows (Go.Sa.B.u8 l2))))])
  | _, _ => none
def pa_impl_WalkTwo_2_WWWWWWWWw__o_impl_yputs (N : Nat) (G_impl_yputWord_w : ∀ {R : Type} (b : Bool) (n : Int) (n1 : Int) (l : List Int) (k : (List Int) → Option R), Option R) (G_impl_WalkTwo_1_WWWw : ∀ {R : Type} (n : Int) (n1 : Int) (b : Bool) (n2 : Int) (n3 : Int) (n4 : Int) (n5 : Int) (n6 : Int) (s : ByteArray) (l : List Int) (k : Int → Bool → Int → Int → Int → (List Int) → Option R), Option R) (G_impl_yputs : ∀ {R : Type} (n : Int) (k : Int → Option R), Option R) (G_impl_ylets : ∀ {R : Type} (n : Int) (n1 : Int) (b : Bool) (k : Bool → Option R), Option R) (G_impl_WalkTwo_2_1_WWWWw : ∀ {R : Type} (n : Int) (n1 : Int) (n2 : Int) (n3 : Int) (n4 : Int) (s : ByteArray) (b : Bool) (n5 : Int) (l : List Int) (k : Int → Bool → Int → Int → Int → (List Int) → Option R), Option R) {R : Type} (args : List AV) (H : Hp E) (K : AV → Hp E → Option R) : Option R :=
  match args, H with
  | [(Go.Eng.AV.sc (Go.Eng.SV.int Go.IntKind.i64 n))], [] => G_impl_yputs n (fun n1 => K (Go.Eng.AV.sc (Go.Eng.SV.int Go.IntKind.i64 n1)) [])
  | _, _ => none
def pa_impl_WalkTwo_2_WWWWWWWWw__o_impl_ylets (N : Nat) (G_impl_yputWord_w : ∀ {R : Type} (b : Bool) (n : Int) (n1 : Int) (l : List Int) (k : (List Int) → Option R), Option R) (G_impl_WalkTwo_1_WWWw : ∀ {R : Type} (n : Int) (n1 : Int) (b : Bool) (n2 : Int) (n3 : Int) (n4 : Int) (n5 : Int) (n6 : Int) (s : ByteArray) (l : List Int) (k : Int → Bool → Int → Int → Int → (List Int) → Option R), Option R) (G_impl_yputs : ∀ {R : Type} (n : Int) (k : Int → Option R), Option R) (G_impl_ylets : ∀ {R : Type} (n : Int) (n1 : Int) (b : Bool) (k : Bool → Option R), Option R) (G_impl_WalkTwo_2_1_WWWWw : ∀ {R : Type} (n : Int) (n1 : Int) (n2 : Int) (n3 : Int) (n4 : Int) (s : ByteArray) (b : Bool) (n5 : Int) (l : List Int) (k : Int → Bool → Int → Int → Int → (List Int) → Option R), Option R) {R : Type} (args : List AV) (H : Hp E) (K : AV → Hp E → Option R) : Option R :=
  match args, H with
  | [(Go.Eng.AV.sc (Go.Eng.SV.int Go.IntKind.i64 n)), (Go.Eng.AV.sc (Go.Eng.SV.int Go.IntKind.i64 n1)), (Go.Eng.AV.sc (Go.Eng.SV.bool b))], [] => G_impl_ylets n n1 b (fun b1 => K (Go.Eng.AV.sc (Go.Eng.SV.bool b1)) [])
  | _, _ => none
def pa_impl_WalkTwo_2_WWWWWWWWw__o_impl_WalkTwo_2_1_WWWWw (N : Nat) (G_impl_yputWord_w : ∀ {R : Type} (b : Bool) (n : Int) (n1 : Int) (l : List Int) (k : (List Int) → Option R), Option R) (G_impl_WalkTwo_1_WWWw : ∀ {R : Type} (n : Int) (n1 : Int) (b : Bool) (n2 : Int) (n3 : Int) (n4 : Int) (n5 : Int) (n6 : Int) (s : ByteArray) (l : List Int) (k : Int → Bool → Int → Int → Int → (List Int) → Option R), Option R) (G_impl_yputs : ∀ {R : Type} (n : Int) (k : Int → Option R), Option R) (G_impl_ylets : ∀ {R : Type} (n : Int) (n1 : Int) (b : Bool) (k : Bool → Option R), Option R) (G_impl_WalkTwo_2_1_WWWWw : ∀ {R : Type} (n : Int) (n1 : Int) (n2 : Int) (n3 : Int) (n4 : Int) (s : ByteArray) (b : Bool) (n5 : Int) (l : List Int) (k : Int → Bool → Int → Int → Int → (List Int) → Option R), Option R) {R : Type} (args : List AV) (H : Hp E) (K : AV → Hp E → Option R) : Option R :=
  match args, H with
  | [(Go.Eng.AV.sc (Go.Eng.SV.int Go.IntKind.i64 n)), (Go.Eng.AV.sc (Go.Eng.SV.ptr 0 0 0)), (Go.Eng.AV.sc (Go.Eng.SV.ptr 1 0 0)), (Go.Eng.AV.sc (Go.Eng.SV.ptr 2 0 0))], [(Option.some (Go.Eng.HE.mk Bool.false (Go.Eng.HB.exp Option.none [(Go.Eng.SV.fn 134 [(2, (0, 0)), (3, (0, 0)), (1, (0, 0))])]))), (Option.some (Go.Eng.HE.mk Bool.false (Go.Eng.HB.exp Option.none [(Go.Eng.SV.int Go.IntKind.i64 n1), (Go.Eng.SV.int Go.IntKind.i64 n2), (Go.Eng.SV.int Go.IntKind.i64 n3), (Go.Eng.SV.int Go.IntKind.i64 n4), (Go.Eng.SV.str s)]))), (Option.some (Go.Eng.HE.mk Bool.false (Go.Eng.HB.exp Option.none [(Go.Eng.SV.slc 4 Option.none b)]))), (Option.some (Go.Eng.HE.mk Bool.false (Go.Eng.HB.exp Option.none [(Go.Eng.SV.int Go.IntKind.i64 n5)]))), (Option.some (Go.Eng.HE.mk Bool.false (Go.Eng.HB.rows (Go.Sa.B.u8 l))))] => G_impl_WalkTwo_2_1_WWWWw n n1 n2 n3 n4 s b n5 l (fun n11 b2 n12 n13 n14 l2 => K (Go.Eng.AV.tup [(Bool.false, [(Go.Eng.SV.int Go.IntKind.i64 n11)]), (Bool.false, [(Go.Eng.SV.bool b2)])]) [(Option.some (Go.Eng.HE.mk Bool.false (Go.Eng.HB.exp Option.none [(Go.Eng.SV.fn 134 [(2, (0, 0)), (3, (0, 0)), (1, (0, 0))])]))), (Option.some (Go.Eng.HE.mk Bool.false (Go.Eng.HB.exp Option.none [(Go.Eng.SV.int Go.IntKind.i64 n12), (Go.Eng.SV.int Go.IntKind.i64 n13), (Go.Eng.SV.int Go.IntKind.i64 n3), (Go.Eng.SV.int Go.IntKind.i64 n14), (Go.Eng.SV.str s)]))), (Option.some (Go.Eng.HE.mk Bool.false (Go.Eng.HB.exp Option.none [(Go.Eng.SV.slc 4 Option.none b)]))), (Option.some (Go.Eng.HE.mk Bool.false (Go.Eng.HB.exp Option.none [(Go.Eng.SV.int Go.IntKind.i64 n5)]))), (Option.some (Go.Eng.HE.mk Bool.false (Go.Eng.HB.rows (Go.Sa.B.u8 l2))))])
  | _, _ => none
noncomputable def OA_impl_WalkTwo_2_WWWWWWWWw (N : Nat) (G_impl_yputWord_w : ∀ {R : Type} (b : Bool) (n : Int) (n1 : Int) (l : List Int) (k : (List Int) → Option R), Option R) (G_impl_WalkTwo_1_WWWw : ∀ {R : Type} (n : Int) (n1 : Int) (b : Bool) (n2 : Int) (n3 : Int) (n4 : Int) (n5 : Int) (n6 : Int) (s : ByteArray) (l : List Int) (k : Int → Bool → Int → Int → Int → (List Int) → Option R), Option R) (G_impl_yputs : ∀ {R : Type} (n : Int) (k : Int → Option R), Option R) (G_impl_ylets : ∀ {R : Type} (n : Int) (n1 : Int) (b : Bool) (k : Bool → Option R), Option R) (G_impl_WalkTwo_2_1_WWWWw : ∀ {R : Type} (n : Int) (n1 : Int) (n2 : Int) (n3 : Int) (n4 : Int) (s : ByteArray) (b : Bool) (n5 : Int) (l : List Int) (k : Int → Bool → Int → Int → Int → (List Int) → Option R), Option R) : Orc E := addFn 72 (pa_impl_WalkTwo_2_WWWWWWWWw__o_impl_yputWord_w N G_impl_yputWord_w G_impl_WalkTwo_1_WWWw G_impl_yputs G_impl_ylets G_impl_WalkTwo_2_1_WWWWw) (addFn 134 (pa_impl_WalkTwo_2_WWWWWWWWw__o_impl_WalkTwo_1_WWWw N G_impl_yputWord_w G_impl_WalkTwo_1_WWWw G_impl_yputs G_impl_ylets G_impl_WalkTwo_2_1_WWWWw) (addFn 139 (pa_impl_WalkTwo_2_WWWWWWWWw__o_impl_yputs N G_impl_yputWord_w G_impl_WalkTwo_1_WWWw G_impl_yputs G_impl_ylets G_impl_WalkTwo_2_1_WWWWw) (addFn 138 (pa_impl_WalkTwo_2_WWWWWWWWw__o_impl_ylets N G_impl_yputWord_w G_impl_WalkTwo_1_WWWw G_impl_yputs G_impl_ylets G_impl_WalkTwo_2_1_WWWWw) (addFn 136 (pa_impl_WalkTwo_2_WWWWWWWWw__o_impl_WalkTwo_2_1_WWWWw N G_impl_yputWord_w G_impl_WalkTwo_1_WWWw G_impl_yputs G_impl_ylets G_impl_WalkTwo_2_1_WWWWw) (noFn)))))
theorem O_impl_WalkTwo_2_WWWWWWWWw_ok (N : Nat) : OrcOk (O_impl_WalkTwo_2_WWWWWWWWw N) := addFn_ok (o_impl_yputWord_w_ok N) (addFn_ok (o_impl_WalkTwo_1_WWWw_ok N) (addFn_ok (o_impl_yputs_ok N) (addFn_ok (o_impl_ylets_ok N) (addFn_ok (o_impl_WalkTwo_2_1_WWWWw_ok N) (noFn_ok)))))
def g_impl_WalkTwo_2_WWWWWWWWw (N : Nat) {R : Type} (n : Int) (n1 : Int) (n2 : Int) (n3 : Int) (s : ByteArray) (b : Bool) (n4 : Int) (n5 : Int) (n6 : Int) (b1 : Bool) (n7 : Int) (l : List Int) (k : Int → Int → Int → Int → Int → (List Int) → Option R) : Option R :=
  (g_impl_WalkTwo_2_1_WWWWw N (Go.IntKind.wrap Go.IntKind.i64 ((Go.IntKind.wrap Go.IntKind.i64 (n4 * (256 : Int))) + (Go.IntKind.wrap Go.IntKind.i64 ((4 : Int) * (Go.IntKind.wrap Go.IntKind.i64 (((BitVec.toNat ((BitVec.ofInt 64 (Int.fdiv n5 (8192 : Int))) &&& (BitVec.ofInt 64 (31 : Int)))) : Nat) : Int)))))) n n1 n2 n3 s b n7 l fun n8 b2 n9 n10 n11 l1 =>
  (cond (!b2)
  (k n9 n10 n2 n11 n6 l1)
  (oK (cond ((Go.IntKind.wrap Go.IntKind.i64 (((BitVec.toNat ((BitVec.ofInt 64 n8) &&& (BitVec.ofInt 64 (1 : Int)))) : Nat) : Int)) != (0 : Int))
      (some ((Go.IntKind.wrap Go.IntKind.i64 (((BitVec.toNat ((BitVec.ofInt 64 n8) &&& (BitVec.ofInt 64 (14 : Int)))) : Nat) : Int)) == (0 : Int)))
      (some Bool.false)) fun j =>
    (cond j
    (cond (decide (((Int.fdiv n8 (256 : Int)) ≥ (1024 : Int))))
      (k (2 : Int) n10 n2 n11 n6 l1)
      (g_impl_WalkTwo_2_1_WWWWw N (Go.IntKind.wrap Go.IntKind.i64 ((Go.IntKind.wrap Go.IntKind.i64 ((Int.fdiv n8 (256 : Int)) * (256 : Int))) + (Go.IntKind.wrap Go.IntKind.i64 ((4 : Int) * (Go.IntKind.wrap Go.IntKind.i64 (((BitVec.toNat ((BitVec.ofInt 64 (Int.fdiv n5 (256 : Int))) &&& (BitVec.ofInt 64 (31 : Int)))) : Nat) : Int)))))) n9 n10 n2 n11 s b n7 l1 fun n12 b3 n13 n14 n15 l2 =>
        (cond (!b3)
        (k n13 n14 n2 n15 n6 l2)
        (oK (g_impl_ylets N (Go.IntKind.wrap Go.IntKind.i64 (((BitVec.toNat ((BitVec.ofInt 64 n12) &&& (BitVec.ofInt 64 (255 : Int)))) : Nat) : Int)) n6 b1 fun b4 =>
            (some (!b4))) fun j1 =>
          (cond j1
          (k (1 : Int) n14 n2 n15 n6 l2)
          (oK (some (Int.fdiv n12 (256 : Int))) fun j2 =>
            (cond (decide ((j2 ≥ (1024 : Int))))
            (k (2 : Int) n14 n2 n15 n6 l2)
            (g_impl_yputs N n6 fun n16 =>
              (cond ((Go.IntKind.wrap Go.IntKind.i64 (((BitVec.toNat ((BitVec.ofInt 64 n12) &&& (BitVec.ofInt 64 n16))) : Nat) : Int)) != n16)
              (g_impl_WalkTwo_1_WWWw N (Go.IntKind.wrap Go.IntKind.i64 ((Go.IntKind.wrap Go.IntKind.i64 ((Int.fdiv n8 (256 : Int)) * (256 : Int))) + (Go.IntKind.wrap Go.IntKind.i64 ((4 : Int) * (Go.IntKind.wrap Go.IntKind.i64 (((BitVec.toNat ((BitVec.ofInt 64 (Int.fdiv n5 (256 : Int))) &&& (BitVec.ofInt 64 (31 : Int)))) : Nat) : Int)))))) (2 : Int) b n7 n13 n14 n2 n15 s l2 fun n17 b5 n18 n19 n20 l3 =>
                (cond (!b5)
                (k n18 n19 n2 n20 n6 l3)
                (g_impl_yputWord_w N b n17 (Go.IntKind.wrap Go.IntKind.i64 (((BitVec.toNat ((BitVec.ofInt 64 n12) ||| (BitVec.ofInt 64 n16))) : Nat) : Int)) l3 fun l4 =>
                  (cond (n6 == (3 : Int))
                  (g_impl_WalkTwo_1_WWWw N (Go.IntKind.wrap Go.IntKind.i64 ((Go.IntKind.wrap Go.IntKind.i64 (j2 * (256 : Int))) + (Go.IntKind.wrap Go.IntKind.i64 (((BitVec.toNat ((BitVec.ofInt 64 n5) &&& (BitVec.ofInt 64 (255 : Int)))) : Nat) : Int)))) (1 : Int) b n7 n18 n19 n2 n20 s l4 fun n21 b6 n22 n23 n24 l5 =>
                    (cond b6
                    (k n22 (Go.IntKind.wrap Go.IntKind.i64 ((Go.IntKind.wrap Go.IntKind.i64 (j2 * (256 : Int))) + (Go.IntKind.wrap Go.IntKind.i64 (((BitVec.toNat ((BitVec.ofInt 64 n5) &&& (BitVec.ofInt 64 (255 : Int)))) : Nat) : Int)))) n21 n24 (1 : Int) l5)
                    (k n22 n23 n2 n24 (1 : Int) l5)))
                  (g_impl_WalkTwo_1_WWWw N (Go.IntKind.wrap Go.IntKind.i64 ((Go.IntKind.wrap Go.IntKind.i64 (j2 * (256 : Int))) + (Go.IntKind.wrap Go.IntKind.i64 (((BitVec.toNat ((BitVec.ofInt 64 n5) &&& (BitVec.ofInt 64 (255 : Int)))) : Nat) : Int)))) n6 b n7 n18 n19 n2 n20 s l4 fun n25 b7 n26 n27 n28 l6 =>
                    (cond b7
                    (k n26 (Go.IntKind.wrap Go.IntKind.i64 ((Go.IntKind.wrap Go.IntKind.i64 (j2 * (256 : Int))) + (Go.IntKind.wrap Go.IntKind.i64 (((BitVec.toNat ((BitVec.ofInt 64 n5) &&& (BitVec.ofInt 64 (255 : Int)))) : Nat) : Int)))) n25 n28 n6 l6)
                    (k n26 n27 n2 n28 n6 l6)))))))
              (cond (n6 == (3 : Int))
                (g_impl_WalkTwo_1_WWWw N (Go.IntKind.wrap Go.IntKind.i64 ((Go.IntKind.wrap Go.IntKind.i64 (j2 * (256 : Int))) + (Go.IntKind.wrap Go.IntKind.i64 (((BitVec.toNat ((BitVec.ofInt 64 n5) &&& (BitVec.ofInt 64 (255 : Int)))) : Nat) : Int)))) (1 : Int) b n7 n13 n14 n2 n15 s l2 fun n29 b8 n30 n31 n32 l7 =>
                  (cond b8
                  (k n30 (Go.IntKind.wrap Go.IntKind.i64 ((Go.IntKind.wrap Go.IntKind.i64 (j2 * (256 : Int))) + (Go.IntKind.wrap Go.IntKind.i64 (((BitVec.toNat ((BitVec.ofInt 64 n5) &&& (BitVec.ofInt 64 (255 : Int)))) : Nat) : Int)))) n29 n32 (1 : Int) l7)
                  (k n30 n31 n2 n32 (1 : Int) l7)))
                (g_impl_WalkTwo_1_WWWw N (Go.IntKind.wrap Go.IntKind.i64 ((Go.IntKind.wrap Go.IntKind.i64 (j2 * (256 : Int))) + (Go.IntKind.wrap Go.IntKind.i64 (((BitVec.toNat ((BitVec.ofInt 64 n5) &&& (BitVec.ofInt 64 (255 : Int)))) : Nat) : Int)))) n6 b n7 n13 n14 n2 n15 s l2 fun n33 b9 n34 n35 n36 l8 =>
                  (cond b9
                  (k n34 (Go.IntKind.wrap Go.IntKind.i64 ((Go.IntKind.wrap Go.IntKind.i64 (j2 * (256 : Int))) + (Go.IntKind.wrap Go.IntKind.i64 (((BitVec.toNat ((BitVec.ofInt 64 n5) &&& (BitVec.ofInt 64 (255 : Int)))) : Nat) : Int)))) n33 n36 n6 l8)
                  (k n34 n35 n2 n36 n6 l8)))))))))))))
    (oK (cond ((Int.tmod (Int.fdiv n8 (256 : Int)) (32 : Int)) != (0 : Int))
        (some Bool.true)
        (g_impl_ylets N (Go.IntKind.wrap Go.IntKind.i64 (((BitVec.toNat ((BitVec.ofInt 64 n8) &&& (BitVec.ofInt 64 (255 : Int)))) : Nat) : Int)) n6 b1 fun b10 =>
          (some (!b10)))) fun j3 =>
      (cond j3
      (k (1 : Int) n10 n2 n11 n6 l1)
      (oK (some (Go.IntKind.wrap Go.IntKind.i64 ((Int.fdiv n8 (256 : Int)) + (Go.IntKind.wrap Go.IntKind.i64 (((BitVec.toNat ((BitVec.ofInt 64 (Int.fdiv n5 (256 : Int))) &&& (BitVec.ofInt 64 (31 : Int)))) : Nat) : Int))))) fun j4 =>
        (cond (decide ((j4 ≥ (1024 : Int))))
        (k (2 : Int) n10 n2 n11 n6 l1)
        (g_impl_yputs N n6 fun n37 =>
          (cond ((Go.IntKind.wrap Go.IntKind.i64 (((BitVec.toNat ((BitVec.ofInt 64 n8) &&& (BitVec.ofInt 64 n37))) : Nat) : Int)) != n37)
          (g_impl_WalkTwo_1_WWWw N (Go.IntKind.wrap Go.IntKind.i64 ((Go.IntKind.wrap Go.IntKind.i64 (n4 * (256 : Int))) + (Go.IntKind.wrap Go.IntKind.i64 ((4 : Int) * (Go.IntKind.wrap Go.IntKind.i64 (((BitVec.toNat ((BitVec.ofInt 64 (Int.fdiv n5 (8192 : Int))) &&& (BitVec.ofInt 64 (31 : Int)))) : Nat) : Int)))))) (2 : Int) b n7 n9 n10 n2 n11 s l1 fun n38 b11 n39 n40 n41 l9 =>
            (cond (!b11)
            (k n39 n40 n2 n41 n6 l9)
            (g_impl_yputWord_w N b n38 (Go.IntKind.wrap Go.IntKind.i64 (((BitVec.toNat ((BitVec.ofInt 64 n8) ||| (BitVec.ofInt 64 n37))) : Nat) : Int)) l9 fun l10 =>
              (cond (n6 == (3 : Int))
              (g_impl_WalkTwo_1_WWWw N (Go.IntKind.wrap Go.IntKind.i64 ((Go.IntKind.wrap Go.IntKind.i64 (j4 * (256 : Int))) + (Go.IntKind.wrap Go.IntKind.i64 (((BitVec.toNat ((BitVec.ofInt 64 n5) &&& (BitVec.ofInt 64 (255 : Int)))) : Nat) : Int)))) (1 : Int) b n7 n39 n40 n2 n41 s l10 fun n42 b12 n43 n44 n45 l11 =>
                (cond b12
                (k n43 (Go.IntKind.wrap Go.IntKind.i64 ((Go.IntKind.wrap Go.IntKind.i64 (j4 * (256 : Int))) + (Go.IntKind.wrap Go.IntKind.i64 (((BitVec.toNat ((BitVec.ofInt 64 n5) &&& (BitVec.ofInt 64 (255 : Int)))) : Nat) : Int)))) n42 n45 (1 : Int) l11)
                (k n43 n44 n2 n45 (1 : Int) l11)))
              (g_impl_WalkTwo_1_WWWw N (Go.IntKind.wrap Go.IntKind.i64 ((Go.IntKind.wrap Go.IntKind.i64 (j4 * (256 : Int))) + (Go.IntKind.wrap Go.IntKind.i64 (((BitVec.toNat ((BitVec.ofInt 64 n5) &&& (BitVec.ofInt 64 (255 : Int)))) : Nat) : Int)))) n6 b n7 n39 n40 n2 n41 s l10 fun n46 b13 n47 n48 n49 l12 =>
                (cond b13
                (k n47 (Go.IntKind.wrap Go.IntKind.i64 ((Go.IntKind.wrap Go.IntKind.i64 (j4 * (256 : Int))) + (Go.IntKind.wrap Go.IntKind.i64 (((BitVec.toNat ((BitVec.ofInt 64 n5) &&& (BitVec.ofInt 64 (255 : Int)))) : Nat) : Int)))) n46 n49 n6 l12)
                (k n47 n48 n2 n49 n6 l12)))))))
          (cond (n6 == (3 : Int))
            (g_impl_WalkTwo_1_WWWw N (Go.IntKind.wrap Go.IntKind.i64 ((Go.IntKind.wrap Go.IntKind.i64 (j4 * (256 : Int))) + (Go.IntKind.wrap Go.IntKind.i64 (((BitVec.toNat ((BitVec.ofInt 64 n5) &&& (BitVec.ofInt 64 (255 : Int)))) : Nat) : Int)))) (1 : Int) b n7 n9 n10 n2 n11 s l1 fun n50 b14 n51 n52 n53 l13 =>
              (cond b14
              (k n51 (Go.IntKind.wrap Go.IntKind.i64 ((Go.IntKind.wrap Go.IntKind.i64 (j4 * (256 : Int))) + (Go.IntKind.wrap Go.IntKind.i64 (((BitVec.toNat ((BitVec.ofInt 64 n5) &&& (BitVec.ofInt 64 (255 : Int)))) : Nat) : Int)))) n50 n53 (1 : Int) l13)
              (k n51 n52 n2 n53 (1 : Int) l13)))
            (g_impl_WalkTwo_1_WWWw N (Go.IntKind.wrap Go.IntKind.i64 ((Go.IntKind.wrap Go.IntKind.i64 (j4 * (256 : Int))) + (Go.IntKind.wrap Go.IntKind.i64 (((BitVec.toNat ((BitVec.ofInt 64 n5) &&& (BitVec.ofInt 64 (255 : Int)))) : Nat) : Int)))) n6 b n7 n9 n10 n2 n11 s l1 fun n54 b15 n55 n56 n57 l14 =>
              (cond b15
              (k n55 (Go.IntKind.wrap Go.IntKind.i64 ((Go.IntKind.wrap Go.IntKind.i64 (j4 * (256 : Int))) + (Go.IntKind.wrap Go.IntKind.i64 (((BitVec.toNat ((BitVec.ofInt 64 n5) &&& (BitVec.ofInt 64 (255 : Int)))) : Nat) : Int)))) n54 n57 n6 l14)
              (k n55 n56 n2 n57 n6 l14))))))))))))))
def ga_g_impl_WalkTwo_2_WWWWWWWWw (N : Nat) (G_impl_yputWord_w : ∀ {R : Type} (b : Bool) (n : Int) (n1 : Int) (l : List Int) (k : (List Int) → Option R), Option R) (G_impl_WalkTwo_1_WWWw : ∀ {R : Type} (n : Int) (n1 : Int) (b : Bool) (n2 : Int) (n3 : Int) (n4 : Int) (n5 : Int) (n6 : Int) (s : ByteArray) (l : List Int) (k : Int → Bool → Int → Int → Int → (List Int) → Option R), Option R) (G_impl_yputs : ∀ {R : Type} (n : Int) (k : Int → Option R), Option R) (G_impl_ylets : ∀ {R : Type} (n : Int) (n1 : Int) (b : Bool) (k : Bool → Option R), Option R) (G_impl_WalkTwo_2_1_WWWWw : ∀ {R : Type} (n : Int) (n1 : Int) (n2 : Int) (n3 : Int) (n4 : Int) (s : ByteArray) (b : Bool) (n5 : Int) (l : List Int) (k : Int → Bool → Int → Int → Int → (List Int) → Option R), Option R) {R : Type} (n : Int) (n1 : Int) (n2 : Int) (n3 : Int) (s : ByteArray) (b : Bool) (n4 : Int) (n5 : Int) (n6 : Int) (b1 : Bool) (n7 : Int) (l : List Int) (k : Int → Int → Int → Int → Int → (List Int) → Option R) : Option R :=
  (G_impl_WalkTwo_2_1_WWWWw (Go.IntKind.wrap Go.IntKind.i64 ((Go.IntKind.wrap Go.IntKind.i64 (n4 * (256 : Int))) + (Go.IntKind.wrap Go.IntKind.i64 ((4 : Int) * (Go.IntKind.wrap Go.IntKind.i64 (((BitVec.toNat ((BitVec.ofInt 64 (Int.fdiv n5 (8192 : Int))) &&& (BitVec.ofInt 64 (31 : Int)))) : Nat) : Int)))))) n n1 n2 n3 s b n7 l fun n8 b2 n9 n10 n11 l1 =>
  (cond (!b2)
  (k n9 n10 n2 n11 n6 l1)
  (oK (cond ((Go.IntKind.wrap Go.IntKind.i64 (((BitVec.toNat ((BitVec.ofInt 64 n8) &&& (BitVec.ofInt 64 (1 : Int)))) : Nat) : Int)) != (0 : Int))
      (some ((Go.IntKind.wrap Go.IntKind.i64 (((BitVec.toNat ((BitVec.ofInt 64 n8) &&& (BitVec.ofInt 64 (14 : Int)))) : Nat) : Int)) == (0 : Int)))
      (some Bool.false)) fun j =>
    (cond j
    (cond (decide (((Int.fdiv n8 (256 : Int)) ≥ (1024 : Int))))
      (k (2 : Int) n10 n2 n11 n6 l1)
      (G_impl_WalkTwo_2_1_WWWWw (Go.IntKind.wrap Go.IntKind.i64 ((Go.IntKind.wrap Go.IntKind.i64 ((Int.fdiv n8 (256 : Int)) * (256 : Int))) + (Go.IntKind.wrap Go.IntKind.i64 ((4 : Int) * (Go.IntKind.wrap Go.IntKind.i64 (((BitVec.toNat ((BitVec.ofInt 64 (Int.fdiv n5 (256 : Int))) &&& (BitVec.ofInt 64 (31 : Int)))) : Nat) : Int)))))) n9 n10 n2 n11 s b n7 l1 fun n12 b3 n13 n14 n15 l2 =>
        (cond (!b3)
        (k n13 n14 n2 n15 n6 l2)
        (oK (G_impl_ylets (Go.IntKind.wrap Go.IntKind.i64 (((BitVec.toNat ((BitVec.ofInt 64 n12) &&& (BitVec.ofInt 64 (255 : Int)))) : Nat) : Int)) n6 b1 fun b4 =>
            (some (!b4))) fun j1 =>
          (cond j1
          (k (1 : Int) n14 n2 n15 n6 l2)
          (oK (some (Int.fdiv n12 (256 : Int))) fun j2 =>
            (cond (decide ((j2 ≥ (1024 : Int))))
            (k (2 : Int) n14 n2 n15 n6 l2)
            (G_impl_yputs n6 fun n16 =>
              (cond ((Go.IntKind.wrap Go.IntKind.i64 (((BitVec.toNat ((BitVec.ofInt 64 n12) &&& (BitVec.ofInt 64 n16))) : Nat) : Int)) != n16)
              (G_impl_WalkTwo_1_WWWw (Go.IntKind.wrap Go.IntKind.i64 ((Go.IntKind.wrap Go.IntKind.i64 ((Int.fdiv n8 (256 : Int)) * (256 : Int))) + (Go.IntKind.wrap Go.IntKind.i64 ((4 : Int) * (Go.IntKind.wrap Go.IntKind.i64 (((BitVec.toNat ((BitVec.ofInt 64 (Int.fdiv n5 (256 : Int))) &&& (BitVec.ofInt 64 (31 : Int)))) : Nat) : Int)))))) (2 : Int) b n7 n13 n14 n2 n15 s l2 fun n17 b5 n18 n19 n20 l3 =>
                (cond (!b5)
                (k n18 n19 n2 n20 n6 l3)
                (G_impl_yputWord_w b n17 (Go.IntKind.wrap Go.IntKind.i64 (((BitVec.toNat ((BitVec.ofInt 64 n12) ||| (BitVec.ofInt 64 n16))) : Nat) : Int)) l3 fun l4 =>
                  (cond (n6 == (3 : Int))
                  (G_impl_WalkTwo_1_WWWw (Go.IntKind.wrap Go.IntKind.i64 ((Go.IntKind.wrap Go.IntKind.i64 (j2 * (256 : Int))) + (Go.IntKind.wrap Go.IntKind.i64 (((BitVec.toNat ((BitVec.ofInt 64 n5) &&& (BitVec.ofInt 64 (255 : Int)))) : Nat) : Int)))) (1 : Int) b n7 n18 n19 n2 n20 s l4 fun n21 b6 n22 n23 n24 l5 =>
                    (cond b6
                    (k n22 (Go.IntKind.wrap Go.IntKind.i64 ((Go.IntKind.wrap Go.IntKind.i64 (j2 * (256 : Int))) + (Go.IntKind.wrap Go.IntKind.i64 (((BitVec.toNat ((BitVec.ofInt 64 n5) &&& (BitVec.ofInt 64 (255 : Int)))) : Nat) : Int)))) n21 n24 (1 : Int) l5)
                    (k n22 n23 n2 n24 (1 : Int) l5)))
                  (G_impl_WalkTwo_1_WWWw (Go.IntKind.wrap Go.IntKind.i64 ((Go.IntKind.wrap Go.IntKind.i64 (j2 * (256 : Int))) + (Go.IntKind.wrap Go.IntKind.i64 (((BitVec.toNat ((BitVec.ofInt 64 n5) &&& (BitVec.ofInt 64 (255 : Int)))) : Nat) : Int)))) n6 b n7 n18 n19 n2 n20 s l4 fun n25 b7 n26 n27 n28 l6 =>
                    (cond b7
                    (k n26 (Go.IntKind.wrap Go.IntKind.i64 ((Go.IntKind.wrap Go.IntKind.i64 (j2 * (256 : Int))) + (Go.IntKind.wrap Go.IntKind.i64 (((BitVec.toNat ((BitVec.ofInt 64 n5) &&& (BitVec.ofInt 64 (255 : Int)))) : Nat) : Int)))) n25 n28 n6 l6)
                    (k n26 n27 n2 n28 n6 l6)))))))
              (cond (n6 == (3 : Int))
                (G_impl_WalkTwo_1_WWWw (Go.IntKind.wrap Go.IntKind.i64 ((Go.IntKind.wrap Go.IntKind.i64 (j2 * (256 : Int))) + (Go.IntKind.wrap Go.IntKind.i64 (((BitVec.toNat ((BitVec.ofInt 64 n5) &&& (BitVec.ofInt 64 (255 : Int)))) : Nat) : Int)))) (1 : Int) b n7 n13 n14 n2 n15 s l2 fun n29 b8 n30 n31 n32 l7 =>
                  (cond b8
                  (k n30 (Go.IntKind.wrap Go.IntKind.i64 ((Go.IntKind.wrap Go.IntKind.i64 (j2 * (256 : Int))) + (Go.IntKind.wrap Go.IntKind.i64 (((BitVec.toNat ((BitVec.ofInt 64 n5) &&& (BitVec.ofInt 64 (255 : Int)))) : Nat) : Int)))) n29 n32 (1 : Int) l7)
                  (k n30 n31 n2 n32 (1 : Int) l7)))
                (G_impl_WalkTwo_1_WWWw (Go.IntKind.wrap Go.IntKind.i64 ((Go.IntKind.wrap Go.IntKind.i64 (j2 * (256 : Int))) + (Go.IntKind.wrap Go.IntKind.i64 (((BitVec.toNat ((BitVec.ofInt 64 n5) &&& (BitVec.ofInt 64 (255 : Int)))) : Nat) : Int)))) n6 b n7 n13 n14 n2 n15 s l2 fun n33 b9 n34 n35 n36 l8 =>
                  (cond b9
                  (k n34 (Go.IntKind.wrap Go.IntKind.i64 ((Go.IntKind.wrap Go.IntKind.i64 (j2 * (256 : Int))) + (Go.IntKind.wrap Go.IntKind.i64 (((BitVec.toNat ((BitVec.ofInt 64 n5) &&& (BitVec.ofInt 64 (255 : Int)))) : Nat) : Int)))) n33 n36 n6 l8)
                  (k n34 n35 n2 n36 n6 l8)))))))))))))
    (oK (cond ((Int.tmod (Int.fdiv n8 (256 : Int)) (32 : Int)) != (0 : Int))
        (some Bool.true)
        (G_impl_ylets (Go.IntKind.wrap Go.IntKind.i64 (((BitVec.toNat ((BitVec.ofInt 64 n8) &&& (BitVec.ofInt 64 (255 : Int)))) : Nat) : Int)) n6 b1 fun b10 =>
          (some (!b10)))) fun j3 =>
      (cond j3
      (k (1 : Int) n10 n2 n11 n6 l1)
      (oK (some (Go.IntKind.wrap Go.IntKind.i64 ((Int.fdiv n8 (256 : Int)) + (Go.IntKind.wrap Go.IntKind.i64 (((BitVec.toNat ((BitVec.ofInt 64 (Int.fdiv n5 (256 : Int))) &&& (BitVec.ofInt 64 (31 : Int)))) : Nat) : Int))))) fun j4 =>
        (cond (decide ((j4 ≥ (1024 : Int))))
        (k (2 : Int) n10 n2 n11 n6 l1)
        (G_impl_yputs n6 fun n37 =>
          (cond ((Go.IntKind.wrap Go.IntKind.i64 (((BitVec.toNat ((BitVec.ofInt 64 n8) &&& (BitVec.ofInt 64 n37))) : Nat) : Int)) != n37)
          (G_impl_WalkTwo_1_WWWw (Go.IntKind.wrap Go.IntKind.i64 ((Go.IntKind.wrap Go.IntKind.i64 (n4 * (256 : Int))) + (Go.IntKind.wrap Go.IntKind.i64 ((4 : Int) * (Go.IntKind.wrap Go.IntKind.i64 (((BitVec.toNat ((BitVec.ofInt 64 (Int.fdiv n5 (8192 : Int))) &&& (BitVec.ofInt 64 (31 : Int)))) : Nat) : Int)))))) (2 : Int) b n7 n9 n10 n2 n11 s l1 fun n38 b11 n39 n40 n41 l9 =>
            (cond (!b11)
            (k n39 n40 n2 n41 n6 l9)
            (G_impl_yputWord_w b n38 (Go.IntKind.wrap Go.IntKind.i64 (((BitVec.toNat ((BitVec.ofInt 64 n8) ||| (BitVec.ofInt 64 n37))) : Nat) : Int)) l9 fun l10 =>
              (cond (n6 == (3 : Int))
              (G_impl_WalkTwo_1_WWWw (Go.IntKind.wrap Go.IntKind.i64 ((Go.IntKind.wrap Go.IntKind.i64 (j4 * (256 : Int))) + (Go.IntKind.wrap Go.IntKind.i64 (((BitVec.toNat ((BitVec.ofInt 64 n5) &&& (BitVec.ofInt 64 (255 : Int)))) : Nat) : Int)))) (1 : Int) b n7 n39 n40 n2 n41 s l10 fun n42 b12 n43 n44 n45 l11 =>
                (cond b12
                (k n43 (Go.IntKind.wrap Go.IntKind.i64 ((Go.IntKind.wrap Go.IntKind.i64 (j4 * (256 : Int))) + (Go.IntKind.wrap Go.IntKind.i64 (((BitVec.toNat ((BitVec.ofInt 64 n5) &&& (BitVec.ofInt 64 (255 : Int)))) : Nat) : Int)))) n42 n45 (1 : Int) l11)
                (k n43 n44 n2 n45 (1 : Int) l11)))
              (G_impl_WalkTwo_1_WWWw (Go.IntKind.wrap Go.IntKind.i64 ((Go.IntKind.wrap Go.IntKind.i64 (j4 * (256 : Int))) + (Go.IntKind.wrap Go.IntKind.i64 (((BitVec.toNat ((BitVec.ofInt 64 n5) &&& (BitVec.ofInt 64 (255 : Int)))) : Nat) : Int)))) n6 b n7 n39 n40 n2 n41 s l10 fun n46 b13 n47 n48 n49 l12 =>
                (cond b13
                (k n47 (Go.IntKind.wrap Go.IntKind.i64 ((Go.IntKind.wrap Go.IntKind.i64 (j4 * (256 : Int))) + (Go.IntKind.wrap Go.IntKind.i64 (((BitVec.toNat ((BitVec.ofInt 64 n5) &&& (BitVec.ofInt 64 (255 : Int)))) : Nat) : Int)))) n46 n49 n6 l12)
                (k n47 n48 n2 n49 n6 l12)))))))
          (cond (n6 == (3 : Int))
            (G_impl_WalkTwo_1_WWWw (Go.IntKind.wrap Go.IntKind.i64 ((Go.IntKind.wrap Go.IntKind.i64 (j4 * (256 : Int))) + (Go.IntKind.wrap Go.IntKind.i64 (((BitVec.toNat ((BitVec.ofInt 64 n5) &&& (BitVec.ofInt 64 (255 : Int)))) : Nat) : Int)))) (1 : Int) b n7 n9 n10 n2 n11 s l1 fun n50 b14 n51 n52 n53 l13 =>
              (cond b14
              (k n51 (Go.IntKind.wrap Go.IntKind.i64 ((Go.IntKind.wrap Go.IntKind.i64 (j4 * (256 : Int))) + (Go.IntKind.wrap Go.IntKind.i64 (((BitVec.toNat ((BitVec.ofInt 64 n5) &&& (BitVec.ofInt 64 (255 : Int)))) : Nat) : Int)))) n50 n53 (1 : Int) l13)
              (k n51 n52 n2 n53 (1 : Int) l13)))
            (G_impl_WalkTwo_1_WWWw (Go.IntKind.wrap Go.IntKind.i64 ((Go.IntKind.wrap Go.IntKind.i64 (j4 * (256 : Int))) + (Go.IntKind.wrap Go.IntKind.i64 (((BitVec.toNat ((BitVec.ofInt 64 n5) &&& (BitVec.ofInt 64 (255 : Int)))) : Nat) : Int)))) n6 b n7 n9 n10 n2 n11 s l1 fun n54 b15 n55 n56 n57 l14 =>
              (cond b15
              (k n55 (Go.IntKind.wrap Go.IntKind.i64 ((Go.IntKind.wrap Go.IntKind.i64 (j4 * (256 : Int))) + (Go.IntKind.wrap Go.IntKind.i64 (((BitVec.toNat ((BitVec.ofInt 64 n5) &&& (BitVec.ofInt 64 (255 : Int)))) : Nat) : Int)))) n54 n57 n6 l14)
              (k n55 n56 n2 n57 n6 l14))))))))))))))
theorem ea_e_impl_WalkTwo_2_WWWWWWWWw (N : Nat) (G_impl_yputWord_w : ∀ {R : Type} (b : Bool) (n : Int) (n1 : Int) (l : List Int) (k : (List Int) → Option R), Option R) (G_impl_WalkTwo_1_WWWw : ∀ {R : Type} (n : Int) (n1 : Int) (b : Bool) (n2 : Int) (n3 : Int) (n4 : Int) (n5 : Int) (n6 : Int) (s : ByteArray) (l : List Int) (k : Int → Bool → Int → Int → Int → (List Int) → Option R), Option R) (G_impl_yputs : ∀ {R : Type} (n : Int) (k : Int → Option R), Option R) (G_impl_ylets : ∀ {R : Type} (n : Int) (n1 : Int) (b : Bool) (k : Bool → Option R), Option R) (G_impl_WalkTwo_2_1_WWWWw : ∀ {R : Type} (n : Int) (n1 : Int) (n2 : Int) (n3 : Int) (n4 : Int) (s : ByteArray) (b : Bool) (n5 : Int) (l : List Int) (k : Int → Bool → Int → Int → Int → (List Int) → Option R), Option R) {R : Type} (n : Int) (n1 : Int) (n2 : Int) (n3 : Int) (s : ByteArray) (b : Bool) (n4 : Int) (n5 : Int) (n6 : Int) (b1 : Bool) (n7 : Int) (l : List Int) (K : AV → Hp E → Option R) :
    runFnI (E := E) (OA_impl_WalkTwo_2_WWWWWWWWw N G_impl_yputWord_w G_impl_WalkTwo_1_WWWw G_impl_yputs G_impl_ylets G_impl_WalkTwo_2_1_WWWWw) (noIt) sl_impl_WalkTwo_2_WWWWWWWWw J_impl_WalkTwo_2_WWWWWWWWw Go.Proofs.Try.f135 [(Go.Eng.AV.sc (Go.Eng.SV.ptr 0 0 0)), (Go.Eng.AV.sc (Go.Eng.SV.ptr 1 0 0)), (Go.Eng.AV.sc (Go.Eng.SV.ptr 2 0 0)), (Go.Eng.AV.sc (Go.Eng.SV.ptr 3 0 0)), (Go.Eng.AV.sc (Go.Eng.SV.ptr 4 0 0)), (Go.Eng.AV.sc (Go.Eng.SV.ptr 5 0 0)), (Go.Eng.AV.sc (Go.Eng.SV.ptr 6 0 0))] [(Option.some (Go.Eng.HE.mk Bool.false (Go.Eng.HB.exp Option.none [(Go.Eng.SV.fn 134 [(2, (0, 0)), (7, (0, 0)), (1, (0, 0))])]))), (Option.some (Go.Eng.HE.mk Bool.false (Go.Eng.HB.exp Option.none [(Go.Eng.SV.int Go.IntKind.i64 n), (Go.Eng.SV.int Go.IntKind.i64 n1), (Go.Eng.SV.int Go.IntKind.i64 n2), (Go.Eng.SV.int Go.IntKind.i64 n3), (Go.Eng.SV.str s)]))), (Option.some (Go.Eng.HE.mk Bool.false (Go.Eng.HB.exp Option.none [(Go.Eng.SV.slc 8 Option.none b)]))), (Option.some (Go.Eng.HE.mk Bool.false (Go.Eng.HB.exp Option.none [(Go.Eng.SV.int Go.IntKind.i64 n4)]))), (Option.some (Go.Eng.HE.mk Bool.false (Go.Eng.HB.exp Option.none [(Go.Eng.SV.int Go.IntKind.i64 n5)]))), (Option.some (Go.Eng.HE.mk Bool.false (Go.Eng.HB.exp Option.none [(Go.Eng.SV.int Go.IntKind.i64 n6)]))), (Option.some (Go.Eng.HE.mk Bool.false (Go.Eng.HB.exp Option.none [(Go.Eng.SV.bool b1)]))), (Option.some (Go.Eng.HE.mk Bool.false (Go.Eng.HB.exp Option.none [(Go.Eng.SV.int Go.IntKind.i64 n7)]))), (Option.some (Go.Eng.HE.mk Bool.false (Go.Eng.HB.rows (Go.Sa.B.u8 l))))] K =
      ga_g_impl_WalkTwo_2_WWWWWWWWw N G_impl_yputWord_w G_impl_WalkTwo_1_WWWw G_impl_yputs G_impl_ylets G_impl_WalkTwo_2_1_WWWWw n n1 n2 n3 s b n4 n5 n6 b1 n7 l (fun n58 n59 n60 n61 n62 l15 => K (Go.Eng.AV.tup []) [(Option.some (Go.Eng.HE.mk Bool.false (Go.Eng.HB.exp Option.none [(Go.Eng.SV.fn 134 [(2, (0, 0)), (7, (0, 0)), (1, (0, 0))])]))), (Option.some (Go.Eng.HE.mk Bool.false (Go.Eng.HB.exp Option.none [(Go.Eng.SV.int Go.IntKind.i64 n58), (Go.Eng.SV.int Go.IntKind.i64 n59), (Go.Eng.SV.int Go.IntKind.i64 n60), (Go.Eng.SV.int Go.IntKind.i64 n61), (Go.Eng.SV.str s)]))), (Option.some (Go.Eng.HE.mk Bool.false (Go.Eng.HB.exp Option.none [(Go.Eng.SV.slc 8 Option.none b)]))), (Option.some (Go.Eng.HE.mk Bool.false (Go.Eng.HB.exp Option.none [(Go.Eng.SV.int Go.IntKind.i64 n4)]))), (Option.some (Go.Eng.HE.mk Bool.false (Go.Eng.HB.exp Option.none [(Go.Eng.SV.int Go.IntKind.i64 n5)]))), (Option.some (Go.Eng.HE.mk Bool.false (Go.Eng.HB.exp Option.none [(Go.Eng.SV.int Go.IntKind.i64 n62)]))), (Option.some (Go.Eng.HE.mk Bool.false (Go.Eng.HB.exp Option.none [(Go.Eng.SV.bool b1)]))), (Option.some (Go.Eng.HE.mk Bool.false (Go.Eng.HB.exp Option.none [(Go.Eng.SV.int Go.IntKind.i64 n7)]))), (Option.some (Go.Eng.HE.mk Bool.false (Go.Eng.HB.rows (Go.Sa.B.u8 l15))))]) := by kernel_rfl
theorem e_impl_WalkTwo_2_WWWWWWWWw (N : Nat) {R : Type} (n : Int) (n1 : Int) (n2 : Int) (n3 : Int) (s : ByteArray) (b : Bool) (n4 : Int) (n5 : Int) (n6 : Int) (b1 : Bool) (n7 : Int) (l : List Int) (K : AV → Hp E → Option R) :
    runFnI (E := E) (O_impl_WalkTwo_2_WWWWWWWWw N) (noIt) sl_impl_WalkTwo_2_WWWWWWWWw J_impl_WalkTwo_2_WWWWWWWWw Go.Proofs.Try.f135 [(Go.Eng.AV.sc (Go.Eng.SV.ptr 0 0 0)), (Go.Eng.AV.sc (Go.Eng.SV.ptr 1 0 0)), (Go.Eng.AV.sc (Go.Eng.SV.ptr 2 0 0)), (Go.Eng.AV.sc (Go.Eng.SV.ptr 3 0 0)), (Go.Eng.AV.sc (Go.Eng.SV.ptr 4 0 0)), (Go.Eng.AV.sc (Go.Eng.SV.ptr 5 0 0)), (Go.Eng.AV.sc (Go.Eng.SV.ptr 6 0 0))] [(Option.some (Go.Eng.HE.mk Bool.false (Go.Eng.HB.exp Option.none [(Go.Eng.SV.fn 134 [(2, (0, 0)), (7, (0, 0)), (1, (0, 0))])]))), (Option.some (Go.Eng.HE.mk Bool.false (Go.Eng.HB.exp Option.none [(Go.Eng.SV.int Go.IntKind.i64 n), (Go.Eng.SV.int Go.IntKind.i64 n1), (Go.Eng.SV.int Go.IntKind.i64 n2), (Go.Eng.SV.int Go.IntKind.i64 n3), (Go.Eng.SV.str s)]))), (Option.some (Go.Eng.HE.mk Bool.false (Go.Eng.HB.exp Option.none [(Go.Eng.SV.slc 8 Option.none b)]))), (Option.some (Go.Eng.HE.mk Bool.false (Go.Eng.HB.exp Option.none [(Go.Eng.SV.int Go.IntKind.i64 n4)]))), (Option.some (Go.Eng.HE.mk Bool.false (Go.Eng.HB.exp Option.none [(Go.Eng.SV.int Go.IntKind.i64 n5)]))), (Option.some (Go.Eng.HE.mk Bool.false (Go.Eng.HB.exp Option.none [(Go.Eng.SV.int Go.IntKind.i64 n6)]))), (Option.some (Go.Eng.HE.mk Bool.false (Go.Eng.HB.exp Option.none [(Go.Eng.SV.bool b1)]))), (Option.some (Go.Eng.HE.mk Bool.false (Go.Eng.HB.exp Option.none [(Go.Eng.SV.int Go.IntKind.i64 n7)]))), (Option.some (Go.Eng.HE.mk Bool.false (Go.Eng.HB.rows (Go.Sa.B.u8 l))))] K =
      g_impl_WalkTwo_2_WWWWWWWWw N n n1 n2 n3 s b n4 n5 n6 b1 n7 l (fun n58 n59 n60 n61 n62 l15 => K (Go.Eng.AV.tup []) [(Option.some (Go.Eng.HE.mk Bool.false (Go.Eng.HB.exp Option.none [(Go.Eng.SV.fn 134 [(2, (0, 0)), (7, (0, 0)), (1, (0, 0))])]))), (Option.some (Go.Eng.HE.mk Bool.false (Go.Eng.HB.exp Option.none [(Go.Eng.SV.int Go.IntKind.i64 n58), (Go.Eng.SV.int Go.IntKind.i64 n59), (Go.Eng.SV.int Go.IntKind.i64 n60), (Go.Eng.SV.int Go.IntKind.i64 n61), (Go.Eng.SV.str s)]))), (Option.some (Go.Eng.HE.mk Bool.false (Go.Eng.HB.exp Option.none [(Go.Eng.SV.slc 8 Option.none b)]))), (Option.some (Go.Eng.HE.mk Bool.false (Go.Eng.HB.exp Option.none [(Go.Eng.SV.int Go.IntKind.i64 n4)]))), (Option.some (Go.Eng.HE.mk Bool.false (Go.Eng.HB.exp Option.none [(Go.Eng.SV.int Go.IntKind.i64 n5)]))), (Option.some (Go.Eng.HE.mk Bool.false (Go.Eng.HB.exp Option.none [(Go.Eng.SV.int Go.IntKind.i64 n62)]))), (Option.some (Go.Eng.HE.mk Bool.false (Go.Eng.HB.exp Option.none [(Go.Eng.SV.bool b1)]))), (Option.some (Go.Eng.HE.mk Bool.false (Go.Eng.HB.exp Option.none [(Go.Eng.SV.int Go.IntKind.i64 n7)]))), (Option.some (Go.Eng.HE.mk Bool.false (Go.Eng.HB.rows (Go.Sa.B.u8 l15))))]) := castPr (by kernel_rfl) (ea_e_impl_WalkTwo_2_WWWWWWWWw N (g_impl_yputWord_w N) (g_impl_WalkTwo_1_WWWw N) (g_impl_yputs N) (g_impl_ylets N) (g_impl_WalkTwo_2_1_WWWWw N) n n1 n2 n3 s b n4 n5 n6 b1 n7 l K)
def o_impl_WalkTwo_2_WWWWWWWWw (N : Nat) {R : Type} (args : List AV) (H : Hp E) (K : AV → Hp E → Option R) : Option R :=
  match args, H with
  | [(Go.Eng.AV.sc (Go.Eng.SV.ptr 0 0 0)), (Go.Eng.AV.sc (Go.Eng.SV.ptr 1 0 0)), (Go.Eng.AV.sc (Go.Eng.SV.ptr 2 0 0)), (Go.Eng.AV.sc (Go.Eng.SV.ptr 3 0 0)), (Go.Eng.AV.sc (Go.Eng.SV.ptr 4 0 0)), (Go.Eng.AV.sc (Go.Eng.SV.ptr 5 0 0)), (Go.Eng.AV.sc (Go.Eng.SV.ptr 6 0 0))], [(Option.some (Go.Eng.HE.mk Bool.false (Go.Eng.HB.exp Option.none [(Go.Eng.SV.fn 134 [(2, (0, 0)), (7, (0, 0)), (1, (0, 0))])]))), (Option.some (Go.Eng.HE.mk Bool.false (Go.Eng.HB.exp Option.none [(Go.Eng.SV.int Go.IntKind.i64 n), (Go.Eng.SV.int Go.IntKind.i64 n1), (Go.Eng.SV.int Go.IntKind.i64 n2), (Go.Eng.SV.int Go.IntKind.i64 n3), (Go.Eng.SV.str s)]))), (Option.some (Go.Eng.HE.mk Bool.false (Go.Eng.HB.exp Option.none [(Go.Eng.SV.slc 8 Option.none b)]))), (Option.some (Go.Eng.HE.mk Bool.false (Go.Eng.HB.exp Option.none [(Go.Eng.SV.int Go.IntKind.i64 n4)]))), (Option.some (Go.Eng.HE.mk Bool.false (Go.Eng.HB.exp Option.none [(Go.Eng.SV.int Go.IntKind.i64 n5)]))), (Option.some (Go.Eng.HE.mk Bool.false (Go.Eng.HB.exp Option.none [(Go.Eng.SV.int Go.IntKind.i64 n6)]))), (Option.some (Go.Eng.HE.mk Bool.false (Go.Eng.HB.exp Option.none [(Go.Eng.SV.bool b1)]))), (Option.some (Go.Eng.HE.mk Bool.false (Go.Eng.HB.exp Option.none [(Go.Eng.SV.int Go.IntKind.i64 n7)]))), (Option.some (Go.Eng.HE.mk Bool.false (Go.Eng.HB.rows (Go.Sa.B.u8 l))))] => g_impl_WalkTwo_2_WWWWWWWWw N n n1 n2 n3 s b n4 n5 n6 b1 n7 l (fun n58 n59 n60 n61 n62 l15 => K (Go.Eng.AV.tup []) [(Option.some (Go.Eng.HE.mk Bool.false (Go.Eng.HB.exp Option.none [(Go.Eng.SV.fn 134 [(2, (0, 0)), (7, (0, 0)), (1, (0, 0))])]))), (Option.some (Go.Eng.HE.mk Bool.false (Go.Eng.HB.exp Option.none [(Go.Eng.SV.int Go.IntKind.i64 n58), (Go.Eng.SV.int Go.IntKind.i64 n59), (Go.Eng.SV.int Go.IntKind.i64 n60), (Go.Eng.SV.int Go.IntKind.i64 n61), (Go.Eng.SV.str s)]))), (Option.some (Go.Eng.HE.mk Bool.false (Go.Eng.HB.exp Option.none [(Go.Eng.SV.slc 8 Option.none b)]))), (Option.some (Go.Eng.HE.mk Bool.false (Go.Eng.HB.exp Option.none [(Go.Eng.SV.int Go.IntKind.i64 n4)]))), (Option.some (Go.Eng.HE.mk Bool.false (Go.Eng.HB.exp Option.none [(Go.Eng.SV.int Go.IntKind.i64 n5)]))), (Option.some (Go.Eng.HE.mk Bool.false (Go.Eng.HB.exp Option.none [(Go.Eng.SV.int Go.IntKind.i64 n62)]))), (Option.some (Go.Eng.HE.mk Bool.false (Go.Eng.HB.exp Option.none [(Go.Eng.SV.bool b1)]))), (Option.some (Go.Eng.HE.mk Bool.false (Go.Eng.HB.exp Option.none [(Go.Eng.SV.int Go.IntKind.i64 n7)]))), (Option.some (Go.Eng.HE.mk Bool.false (Go.Eng.HB.rows (Go.Sa.B.u8 l15))))])
  | _, _ => none
theorem o_impl_WalkTwo_2_WWWWWWWWw_ok (N : Nat) : FnOk E 135 (o_impl_WalkTwo_2_WWWWWWWWw N) := by
  intro R args H K r h
  unfold o_impl_WalkTwo_2_WWWWWWWWw at h
  dsimp only at h
  split at h
  · exact fnB_ok (ids := []) (top := []) ok (O_impl_WalkTwo_2_WWWWWWWWw_ok N) (jn_ok _ _ _) Go.Proofs.Try.func135 (by kernel_rfl) (IT := noIt) (sl := sl_impl_WalkTwo_2_WWWWWWWWw) (J := J_impl_WalkTwo_2_WWWWWWWWw) (K := K) (H := [(Option.some (Go.Eng.HE.mk Bool.false (Go.Eng.HB.exp Option.none [(Go.Eng.SV.fn 134 [(2, (0, 0)), (7, (0, 0)), (1, (0, 0))])]))), (Option.some (Go.Eng.HE.mk Bool.false (Go.Eng.HB.exp Option.none [(Go.Eng.SV.int Go.IntKind.i64 _), (Go.Eng.SV.int Go.IntKind.i64 _), (Go.Eng.SV.int Go.IntKind.i64 _), (Go.Eng.SV.int Go.IntKind.i64 _), (Go.Eng.SV.str _)]))), (Option.some (Go.Eng.HE.mk Bool.false (Go.Eng.HB.exp Option.none [(Go.Eng.SV.slc 8 Option.none _)]))), (Option.some (Go.Eng.HE.mk Bool.false (Go.Eng.HB.exp Option.none [(Go.Eng.SV.int Go.IntKind.i64 _)]))), (Option.some (Go.Eng.HE.mk Bool.false (Go.Eng.HB.exp Option.none [(Go.Eng.SV.int Go.IntKind.i64 _)]))), (Option.some (Go.Eng.HE.mk Bool.false (Go.Eng.HB.exp Option.none [(Go.Eng.SV.int Go.IntKind.i64 _)]))), (Option.some (Go.Eng.HE.mk Bool.false (Go.Eng.HB.exp Option.none [(Go.Eng.SV.bool _)]))), (Option.some (Go.Eng.HE.mk Bool.false (Go.Eng.HB.exp Option.none [(Go.Eng.SV.int Go.IntKind.i64 _)]))), (Option.some (Go.Eng.HE.mk Bool.false (Go.Eng.HB.rows (Go.Sa.B.u8 _))))]) (noIt_ok) (by kernel_rfl) rfl ((e_impl_WalkTwo_2_WWWWWWWWw N _ _ _ _ _ _ _ _ _ _ _ _ K).trans h)
  · cases h
/-! ### loop.example/g00038/impl.WalkTwo -/
abbrev sl_impl_WalkTwo : SlotT := []
abbrev J_impl_WalkTwo : JT := jn [(1, [(30, .b)])] [] []
noncomputable def O_impl_WalkTwo (N : Nat) : Orc E := addFn 135 (o_impl_WalkTwo_2_WWWWWWWWw N) (addFn 69 (o_impl_ywalkOk N) (addFn 96 (o_impl_yin N) (addFn 68 (o_impl_ymemOk N) (noFn))))
def pa_impl_WalkTwo__o_impl_WalkTwo_2_WWWWWWWWw (N : Nat) (G_impl_WalkTwo_2_WWWWWWWWw : ∀ {R : Type} (n : Int) (n1 : Int) (n2 : Int) (n3 : Int) (s : ByteArray) (b : Bool) (n4 : Int) (n5 : Int) (n6 : Int) (b1 : Bool) (n7 : Int) (l : List Int) (k : Int → Int → Int → Int → Int → (List Int) → Option R), Option R) (G_impl_ywalkOk : ∀ {R : Type} (n : Int) (n1 : Int) (n2 : Int) (k : Bool → Option R), Option R) (G_impl_yin : ∀ {R : Type} (n : Int) (n1 : Int) (n2 : Int) (k : Bool → Option R), Option R) (G_impl_ymemOk : ∀ {R : Type} (s : ByteArray) (k : Bool → Option R), Option R) {R : Type} (args : List AV) (H : Hp E) (K : AV → Hp E → Option R) : Option R :=
  match args, H with
  | [(Go.Eng.AV.sc (Go.Eng.SV.ptr 0 0 0)), (Go.Eng.AV.sc (Go.Eng.SV.ptr 1 0 0)), (Go.Eng.AV.sc (Go.Eng.SV.ptr 2 0 0)), (Go.Eng.AV.sc (Go.Eng.SV.ptr 3 0 0)), (Go.Eng.AV.sc (Go.Eng.SV.ptr 4 0 0)), (Go.Eng.AV.sc (Go.Eng.SV.ptr 5 0 0)), (Go.Eng.AV.sc (Go.Eng.SV.ptr 6 0 0))], [(Option.some (Go.Eng.HE.mk Bool.false (Go.Eng.HB.exp Option.none [(Go.Eng.SV.fn 134 [(2, (0, 0)), (7, (0, 0)), (1, (0, 0))])]))), (Option.some (Go.Eng.HE.mk Bool.false (Go.Eng.HB.exp Option.none [(Go.Eng.SV.int Go.IntKind.i64 n), (Go.Eng.SV.int Go.IntKind.i64 n1), (Go.Eng.SV.int Go.IntKind.i64 n2), (Go.Eng.SV.int Go.IntKind.i64 n3), (Go.Eng.SV.str s)]))), (Option.some (Go.Eng.HE.mk Bool.false (Go.Eng.HB.exp Option.none [(Go.Eng.SV.slc 8 Option.none b)]))), (Option.some (Go.Eng.HE.mk Bool.false (Go.Eng.HB.exp Option.none [(Go.Eng.SV.int Go.IntKind.i64 n4)]))), (Option.some (Go.Eng.HE.mk Bool.false (Go.Eng.HB.exp Option.none [(Go.Eng.SV.int Go.IntKind.i64 n5)]))), (Option.some (Go.Eng.HE.mk Bool.false (Go.Eng.HB.exp Option.none [(Go.Eng.SV.int Go.IntKind.i64 n6)]))), (Option.some (Go.Eng.HE.mk Bool.false (Go.Eng.HB.exp Option.none [(Go.Eng.SV.bool b1)]))), (Option.some (Go.Eng.HE.mk Bool.false (Go.Eng.HB.exp Option.none [(Go.Eng.SV.int Go.IntKind.i64 n7)]))), (Option.some (Go.Eng.HE.mk Bool.false (Go.Eng.HB.rows (Go.Sa.B.u8 l))))] => G_impl_WalkTwo_2_WWWWWWWWw n n1 n2 n3 s b n4 n5 n6 b1 n7 l (fun n58 n59 n60 n61 n62 l15 => K (Go.Eng.AV.tup []) [(Option.some (Go.Eng.HE.mk Bool.false (Go.Eng.HB.exp Option.none [(Go.Eng.SV.fn 134 [(2, (0, 0)), (7, (0, 0)), (1, (0, 0))])]))), (Option.some (Go.Eng.HE.mk Bool.false (Go.Eng.HB.exp Option.none [(Go.Eng.SV.int Go.IntKind.i64 n58), (Go.Eng.SV.int Go.IntKind.i64 n59), (Go.Eng.SV.int Go.IntKind.i64 n60), (Go.Eng.SV.int Go.IntKind.i64 n61), (Go.Eng.SV.str s)]))), (Option.some (Go.Eng.HE.mk Bool.false (Go.Eng.HB.exp Option.none [(Go.Eng.SV.slc 8 Option.none b)]))), (Option.some (Go.Eng.HE.mk Bool.false (Go.Eng.HB.exp Option.none [(Go.Eng.SV.int Go.IntKind.i64 n4)]))), (Option.some (Go.Eng.HE.mk Bool.false (Go.Eng.HB.exp Option.none [(Go.Eng.SV.int Go.IntKind.i64 n5)]))), (Option.some (Go.Eng.HE.mk Bool.false (Go.Eng.HB.exp Option.none [(Go.Eng.SV.int Go.IntKind.i64 n62)]))), (Option.some (Go.Eng.HE.mk Bool.false (Go.Eng.HB.exp Option.none [(Go.Eng.SV.bool b1)]))), (Option.some (Go.Eng.HE.mk Bool.false (Go.Eng.HB.exp Option.none [(Go.Eng.SV.int Go.IntKind.i64 n7)]))), (Option.some (Go.Eng.HE.mk Bool.false (Go.Eng.HB.rows (Go.Sa.B.u8 l15))))])
  | _, _ => none
def pa_impl_WalkTwo__o_impl_ywalkOk (N : Nat) (G_impl_WalkTwo_2_WWWWWWWWw : ∀ {R : Type} (n : Int) (n1 : Int) (n2 : Int) (n3 : Int) (s : ByteArray) (b : Bool) (n4 : Int) (n5 : Int) (n6 : Int) (b1 : Bool) (n7 : Int) (l : List Int) (k : Int → Int → Int → Int → Int → (List Int) → Option R), Option R) (G_impl_ywalkOk : ∀ {R : Type} (n : Int) (n1 : Int) (n2 : Int) (k : Bool → Option R), Option R) (G_impl_yin : ∀ {R : Type} (n : Int) (n1 : Int) (n2 : Int) (k : Bool → Option R), Option R) (G_impl_ymemOk : ∀ {R : Type} (s : ByteArray) (k : Bool → Option R), Option R) {R : Type} (args : List AV) (H : Hp E) (K : AV → Hp E → Option R) : Option R :=
  match args, H with
  | [(Go.Eng.AV.sc (Go.Eng.SV.int Go.IntKind.i64 n)), (Go.Eng.AV.sc (Go.Eng.SV.int Go.IntKind.i64 n1)), (Go.Eng.AV.sc (Go.Eng.SV.int Go.IntKind.i64 n2))], [] => G_impl_ywalkOk n n1 n2 (fun b3 => K (Go.Eng.AV.sc (Go.Eng.SV.bool b3)) [])
  | _, _ => none
def pa_impl_WalkTwo__o_impl_yin (N : Nat) (G_impl_WalkTwo_2_WWWWWWWWw : ∀ {R : Type} (n : Int) (n1 : Int) (n2 : Int) (n3 : Int) (s : ByteArray) (b : Bool) (n4 : Int) (n5 : Int) (n6 : Int) (b1 : Bool) (n7 : Int) (l : List Int) (k : Int → Int → Int → Int → Int → (List Int) → Option R), Option R) (G_impl_ywalkOk : ∀ {R : Type} (n : Int) (n1 : Int) (n2 : Int) (k : Bool → Option R), Option R) (G_impl_yin : ∀ {R : Type} (n : Int) (n1 : Int) (n2 : Int) (k : Bool → Option R), Option R) (G_impl_ymemOk : ∀ {R : Type} (s : ByteArray) (k : Bool → Option R), Option R) {R : Type} (args : List AV) (H : Hp E) (K : AV → Hp E → Option R) : Option R :=
  match args, H with
  | [(Go.Eng.AV.sc (Go.Eng.SV.int Go.IntKind.i64 n)), (Go.Eng.AV.sc (Go.Eng.SV.int Go.IntKind.i64 n1)), (Go.Eng.AV.sc (Go.Eng.SV.int Go.IntKind.i64 n2))], [] => G_impl_yin n n1 n2 (fun b => K (Go.Eng.AV.sc (Go.Eng.SV.bool b)) [])
  | _, _ => none
def pa_impl_WalkTwo__o_impl_ymemOk (N : Nat) (G_impl_WalkTwo_2_WWWWWWWWw : ∀ {R : Type} (n : Int) (n1 : Int) (n2 : Int) (n3 : Int) (s : ByteArray) (b : Bool) (n4 : Int) (n5 : Int) (n6 : Int) (b1 : Bool) (n7 : Int) (l : List Int) (k : Int → Int → Int → Int → Int → (List Int) → Option R), Option R) (G_impl_ywalkOk : ∀ {R : Type} (n : Int) (n1 : Int) (n2 : Int) (k : Bool → Option R), Option R) (G_impl_yin : ∀ {R : Type} (n : Int) (n1 : Int) (n2 : Int) (k : Bool → Option R), Option R) (G_impl_ymemOk : ∀ {R : Type} (s : ByteArray) (k : Bool → Option R), Option R) {R : Type} (args : List AV) (H : Hp E) (K : AV → Hp E → Option R) : Option R :=
  match args, H with
  | [(Go.Eng.AV.sc (Go.Eng.SV.str s))], [] => G_impl_ymemOk s (fun b => K (Go.Eng.AV.sc (Go.Eng.SV.bool b)) [])
  | _, _ => none
noncomputable def OA_impl_WalkTwo (N : Nat) (G_impl_WalkTwo_2_WWWWWWWWw : ∀ {R : Type} (n : Int) (n1 : Int) (n2 : Int) (n3 : Int) (s : ByteArray) (b : Bool) (n4 : Int) (n5 : Int) (n6 : Int) (b1 : Bool) (n7 : Int) (l : List Int) (k : Int → Int → Int → Int → Int → (List Int) → Option R), Option R) (G_impl_ywalkOk : ∀ {R : Type} (n : Int) (n1 : Int) (n2 : Int) (k : Bool → Option R), Option R) (G_impl_yin : ∀ {R : Type} (n : Int) (n1 : Int) (n2 : Int) (k : Bool → Option R), Option R) (G_impl_ymemOk : ∀ {R : Type} (s : ByteArray) (k : Bool → Option R), Option R) : Orc E := addFn 135 (pa_impl_WalkTwo__o_impl_WalkTwo_2_WWWWWWWWw N G_impl_WalkTwo_2_WWWWWWWWw G_impl_ywalkOk G_impl_yin G_impl_ymemOk) (addFn 69 (pa_impl_WalkTwo__o_impl_ywalkOk N G_impl_WalkTwo_2_WWWWWWWWw G_impl_ywalkOk G_impl_yin G_impl_ymemOk) (addFn 96 (pa_impl_WalkTwo__o_impl_yin N G_impl_WalkTwo_2_WWWWWWWWw G_impl_ywalkOk G_impl_yin G_impl_ymemOk) (addFn 68 (pa_impl_WalkTwo__o_impl_ymemOk N G_impl_WalkTwo_2_WWWWWWWWw G_impl_ywalkOk G_impl_yin G_impl_ymemOk) (noFn))))
theorem O_impl_WalkTwo_ok (N : Nat) : OrcOk (O_impl_WalkTwo N) := addFn_ok (o_impl_WalkTwo_2_WWWWWWWWw_ok N) (addFn_ok (o_impl_ywalkOk_ok N) (addFn_ok (o_impl_yin_ok N) (addFn_ok (o_impl_ymemOk_ok N) (noFn_ok))))
def g_impl_WalkTwo (N : Nat) {R : Type} (s : ByteArray) (n : Int) (n1 : Int) (n2 : Int) (n3 : Int) (b : Bool) (k : Int → Int → Int → Int → ByteArray → Option R) : Option R :=
  (oK (g_impl_ymemOk N s fun b1 =>
    (cond (!b1)
    (some Bool.true)
    (g_impl_yin N n (0 : Int) (255 : Int) fun b2 =>
      (cond (!b2)
      (some Bool.true)
      (g_impl_ywalkOk N n1 n2 n3 fun b3 =>
        (some (!b3))))))) fun j =>
  (cond j
  (k (0 : Int) (0 : Int) (0 : Int) (0 : Int) (ByteArray.mk (List.toArray [])))
  (g_impl_WalkTwo_2_WWWWWWWWw N (0 : Int) (0 : Int) (0 : Int) (0 : Int) (ByteArray.mk (List.toArray [])) Bool.false n1 n2 n3 b n (Go.Eng.ofBytes s) fun n4 n5 n6 n7 n8 l =>
    (cond (Nat.ble (0 + (List.length l)) (List.length l))
    (k n4 n5 n6 n7 (Go.Eng.toBytes (Go.Eng.seg l 0 (List.length l))))
    none))))
def ga_g_impl_WalkTwo (N : Nat) (G_impl_WalkTwo_2_WWWWWWWWw : ∀ {R : Type} (n : Int) (n1 : Int) (n2 : Int) (n3 : Int) (s : ByteArray) (b : Bool) (n4 : Int) (n5 : Int) (n6 : Int) (b1 : Bool) (n7 : Int) (l : List Int) (k : Int → Int → Int → Int → Int → (List Int) → Option R), Option R) (G_impl_ywalkOk : ∀ {R : Type} (n : Int) (n1 : Int) (n2 : Int) (k : Bool → Option R), Option R) (G_impl_yin : ∀ {R : Type} (n : Int) (n1 : Int) (n2 : Int) (k : Bool → Option R), Option R) (G_impl_ymemOk : ∀ {R : Type} (s : ByteArray) (k : Bool → Option R), Option R) {R : Type} (s : ByteArray) (n : Int) (n1 : Int) (n2 : Int) (n3 : Int) (b : Bool) (k : Int → Int → Int → Int → ByteArray → Option R) : Option R :=
  (oK (G_impl_ymemOk s fun b1 =>
    (cond (!b1)
    (some Bool.true)
    (G_impl_yin n (0 : Int) (255 : Int) fun b2 =>
      (cond (!b2)
      (some Bool.true)
      (G_impl_ywalkOk n1 n2 n3 fun b3 =>
        (some (!b3))))))) fun j =>
  (cond j
  (k (0 : Int) (0 : Int) (0 : Int) (0 : Int) (ByteArray.mk (List.toArray [])))
  (G_impl_WalkTwo_2_WWWWWWWWw (0 : Int) (0 : Int) (0 : Int) (0 : Int) (ByteArray.mk (List.toArray [])) Bool.false n1 n2 n3 b n (Go.Eng.ofBytes s) fun n4 n5 n6 n7 n8 l =>
    (cond (Nat.ble (0 + (List.length l)) (List.length l))
    (k n4 n5 n6 n7 (Go.Eng.toBytes (Go.Eng.seg l 0 (List.length l))))
    none))))
theorem ea_e_impl_WalkTwo (N : Nat) (G_impl_WalkTwo_2_WWWWWWWWw : ∀ {R : Type} (n : Int) (n1 : Int) (n2 : Int) (n3 : Int) (s : ByteArray) (b : Bool) (n4 : Int) (n5 : Int) (n6 : Int) (b1 : Bool) (n7 : Int) (l : List Int) (k : Int → Int → Int → Int → Int → (List Int) → Option R), Option R) (G_impl_ywalkOk : ∀ {R : Type} (n : Int) (n1 : Int) (n2 : Int) (k : Bool → Option R), Option R) (G_impl_yin : ∀ {R : Type} (n : Int) (n1 : Int) (n2 : Int) (k : Bool → Option R), Option R) (G_impl_ymemOk : ∀ {R : Type} (s : ByteArray) (k : Bool → Option R), Option R) {R : Type} (s : ByteArray) (n : Int) (n1 : Int) (n2 : Int) (n3 : Int) (b : Bool) (K : AV → Hp E → Option R) :
    runFnI (E := E) (OA_impl_WalkTwo N G_impl_WalkTwo_2_WWWWWWWWw G_impl_ywalkOk G_impl_yin G_impl_ymemOk) (noIt) sl_impl_WalkTwo J_impl_WalkTwo Go.Proofs.Try.f56 [(Go.Eng.AV.sc (Go.Eng.SV.str s)), (Go.Eng.AV.sc (Go.Eng.SV.int Go.IntKind.i64 n)), (Go.Eng.AV.sc (Go.Eng.SV.int Go.IntKind.i64 n1)), (Go.Eng.AV.sc (Go.Eng.SV.int Go.IntKind.i64 n2)), (Go.Eng.AV.sc (Go.Eng.SV.int Go.IntKind.i64 n3)), (Go.Eng.AV.sc (Go.Eng.SV.bool b))] [] K =
      ga_g_impl_WalkTwo N G_impl_WalkTwo_2_WWWWWWWWw G_impl_ywalkOk G_impl_yin G_impl_ymemOk s n n1 n2 n3 b (fun n9 n10 n11 n12 s1 => K (Go.Eng.AV.agg [(Go.Eng.SV.int Go.IntKind.i64 n9), (Go.Eng.SV.int Go.IntKind.i64 n10), (Go.Eng.SV.int Go.IntKind.i64 n11), (Go.Eng.SV.int Go.IntKind.i64 n12), (Go.Eng.SV.str s1)]) []) := by kernel_rfl
theorem e_impl_WalkTwo (N : Nat) {R : Type} (s : ByteArray) (n : Int) (n1 : Int) (n2 : Int) (n3 : Int) (b : Bool) (K : AV → Hp E → Option R) :
    runFnI (E := E) (O_impl_WalkTwo N) (noIt) sl_impl_WalkTwo J_impl_WalkTwo Go.Proofs.Try.f56 [(Go.Eng.AV.sc (Go.Eng.SV.str s)), (Go.Eng.AV.sc (Go.Eng.SV.int Go.IntKind.i64 n)), (Go.Eng.AV.sc (Go.Eng.SV.int Go.IntKind.i64 n1)), (Go.Eng.AV.sc (Go.Eng.SV.int Go.IntKind.i64 n2)), (Go.Eng.AV.sc (Go.Eng.SV.int Go.IntKind.i64 n3)), (Go.Eng.AV.sc (Go.Eng.SV.bool b))] [] K =
      g_impl_WalkTwo N s n n1 n2 n3 b (fun n9 n10 n11 n12 s1 => K (Go.Eng.AV.agg [(Go.Eng.SV.int Go.IntKind.i64 n9), (Go.Eng.SV.int Go.IntKind.i64 n10), (Go.Eng.SV.int Go.IntKind.i64 n11), (Go.Eng.SV.int Go.IntKind.i64 n12), (Go.Eng.SV.str s1)]) []) := castPr (by kernel_rfl) (ea_e_impl_WalkTwo N (g_impl_WalkTwo_2_WWWWWWWWw N) (g_impl_ywalkOk N) (g_impl_yin N) (g_impl_ymemOk N) s n n1 n2 n3 b K)
def o_impl_WalkTwo (N : Nat) {R : Type} (args : List AV) (H : Hp E) (K : AV → Hp E → Option R) : Option R :=
  match args, H with
  | [(Go.Eng.AV.sc (Go.Eng.SV.str s)), (Go.Eng.AV.sc (Go.Eng.SV.int Go.IntKind.i64 n)), (Go.Eng.AV.sc (Go.Eng.SV.int Go.IntKind.i64 n1)), (Go.Eng.AV.sc (Go.Eng.SV.int Go.IntKind.i64 n2)), (Go.Eng.AV.sc (Go.Eng.SV.int Go.IntKind.i64 n3)), (Go.Eng.AV.sc (Go.Eng.SV.bool b))], [] => g_impl_WalkTwo N s n n1 n2 n3 b (fun n9 n10 n11 n12 s1 => K (Go.Eng.AV.agg [(Go.Eng.SV.int Go.IntKind.i64 n9), (Go.Eng.SV.int Go.IntKind.i64 n10), (Go.Eng.SV.int Go.IntKind.i64 n11), (Go.Eng.SV.int Go.IntKind.i64 n12), (Go.Eng.SV.str s1)]) [])
  | _, _ => none
theorem o_impl_WalkTwo_ok (N : Nat) : FnOk E 56 (o_impl_WalkTwo N) := by
  intro R args H K r h
  unfold o_impl_WalkTwo at h
  dsimp only at h
  split at h
  · exact fnB_ok (ids := []) (top := []) ok (O_impl_WalkTwo_ok N) (jn_ok _ _ _) Go.Proofs.Try.func56 (by kernel_rfl) (IT := noIt) (sl := sl_impl_WalkTwo) (J := J_impl_WalkTwo) (K := K) (H := []) (noIt_ok) (by kernel_rfl) rfl ((e_impl_WalkTwo N _ _ _ _ _ _ K).trans h)
  · cases h
/-! ### loop.example/g00038/laws.eqTwoWalked -/
abbrev sl_laws_eqTwoWalked : SlotT := []
abbrev J_laws_eqTwoWalked : JT := jn [] [] []
noncomputable def O_laws_eqTwoWalked (N : Nat) : Orc E := noFn
theorem O_laws_eqTwoWalked_ok (N : Nat) : OrcOk (O_laws_eqTwoWalked N) := noFn_ok
def g_laws_eqTwoWalked (N : Nat) {R : Type} (n : Int) (n1 : Int) (n2 : Int) (n3 : Int) (s : ByteArray) (n4 : Int) (n5 : Int) (n6 : Int) (n7 : Int) (s1 : ByteArray) (k : Bool → Option R) : Option R :=
  (cond (n != n4)
  (k Bool.false)
  (cond (n1 != n5)
    (k Bool.false)
    (cond (n2 != n6)
      (k Bool.false)
      (cond (n3 != n7)
        (k Bool.false)
        (cond (!(decide ((s = s1))))
          (k Bool.false)
          (k Bool.true))))))
theorem e_laws_eqTwoWalked (N : Nat) {R : Type} (n : Int) (n1 : Int) (n2 : Int) (n3 : Int) (s : ByteArray) (n4 : Int) (n5 : Int) (n6 : Int) (n7 : Int) (s1 : ByteArray) (K : AV → Hp E → Option R) :
    runFnI (E := E) (O_laws_eqTwoWalked N) (noIt) sl_laws_eqTwoWalked J_laws_eqTwoWalked Go.Proofs.Try.f57 [(Go.Eng.AV.agg [(Go.Eng.SV.int Go.IntKind.i64 n), (Go.Eng.SV.int Go.IntKind.i64 n1), (Go.Eng.SV.int Go.IntKind.i64 n2), (Go.Eng.SV.int Go.IntKind.i64 n3), (Go.Eng.SV.str s)]), (Go.Eng.AV.agg [(Go.Eng.SV.int Go.IntKind.i64 n4), (Go.Eng.SV.int Go.IntKind.i64 n5), (Go.Eng.SV.int Go.IntKind.i64 n6), (Go.Eng.SV.int Go.IntKind.i64 n7), (Go.Eng.SV.str s1)])] [] K =
      g_laws_eqTwoWalked N n n1 n2 n3 s n4 n5 n6 n7 s1 (fun b => K (Go.Eng.AV.sc (Go.Eng.SV.bool b)) []) := by kernel_rfl
def o_laws_eqTwoWalked (N : Nat) {R : Type} (args : List AV) (H : Hp E) (K : AV → Hp E → Option R) : Option R :=
  match args, H with
  | [(Go.Eng.AV.agg [(Go.Eng.SV.int Go.IntKind.i64 n), (Go.Eng.SV.int Go.IntKind.i64 n1), (Go.Eng.SV.int Go.IntKind.i64 n2), (Go.Eng.SV.int Go.IntKind.i64 n3), (Go.Eng.SV.str s)]), (Go.Eng.AV.agg [(Go.Eng.SV.int Go.IntKind.i64 n4), (Go.Eng.SV.int Go.IntKind.i64 n5), (Go.Eng.SV.int Go.IntKind.i64 n6), (Go.Eng.SV.int Go.IntKind.i64 n7), (Go.Eng.SV.str s1)])], [] => g_laws_eqTwoWalked N n n1 n2 n3 s n4 n5 n6 n7 s1 (fun b => K (Go.Eng.AV.sc (Go.Eng.SV.bool b)) [])
  | _, _ => none
theorem o_laws_eqTwoWalked_ok (N : Nat) : FnOk E 57 (o_laws_eqTwoWalked N) := by
  intro R args H K r h
  unfold o_laws_eqTwoWalked at h
  dsimp only at h
  split at h
  · exact fnB_ok (ids := []) (top := []) ok (O_laws_eqTwoWalked_ok N) (jn_ok _ _ _) Go.Proofs.Try.func57 (by kernel_rfl) (IT := noIt) (sl := sl_laws_eqTwoWalked) (J := J_laws_eqTwoWalked) (K := K) (H := []) (noIt_ok) (by kernel_rfl) rfl ((e_laws_eqTwoWalked N _ _ _ _ _ _ _ _ _ _ K).trans h)
  · cases h
/-! ### loop.example/g00038/laws.FnExactWalkTwo -/
abbrev sl_laws_FnExactWalkTwo : SlotT := []
abbrev J_laws_FnExactWalkTwo : JT := jn [] [] []
noncomputable def O_laws_FnExactWalkTwo (N : Nat) : Orc E := addFn 57 (o_laws_eqTwoWalked N) (addFn 56 (o_impl_WalkTwo N) (addFn 55 (o_spec_WalkTwo N) (noFn)))
def pa_laws_FnExactWalkTwo__o_laws_eqTwoWalked (N : Nat) (G_laws_eqTwoWalked : ∀ {R : Type} (n : Int) (n1 : Int) (n2 : Int) (n3 : Int) (s : ByteArray) (n4 : Int) (n5 : Int) (n6 : Int) (n7 : Int) (s1 : ByteArray) (k : Bool → Option R), Option R) (G_impl_WalkTwo : ∀ {R : Type} (s : ByteArray) (n : Int) (n1 : Int) (n2 : Int) (n3 : Int) (b : Bool) (k : Int → Int → Int → Int → ByteArray → Option R), Option R) (G_spec_WalkTwo : ∀ {R : Type} (s : ByteArray) (n : Int) (n1 : Int) (n2 : Int) (n3 : Int) (b : Bool) (k : Int → Int → Int → Int → ByteArray → Option R), Option R) {R : Type} (args : List AV) (H : Hp E) (K : AV → Hp E → Option R) : Option R :=
  match args, H with
  | [(Go.Eng.AV.agg [(Go.Eng.SV.int Go.IntKind.i64 n), (Go.Eng.SV.int Go.IntKind.i64 n1), (Go.Eng.SV.int Go.IntKind.i64 n2), (Go.Eng.SV.int Go.IntKind.i64 n3), (Go.Eng.SV.str s)]), (Go.Eng.AV.agg [(Go.Eng.SV.int Go.IntKind.i64 n4), (Go.Eng.SV.int Go.IntKind.i64 n5), (Go.Eng.SV.int Go.IntKind.i64 n6), (Go.Eng.SV.int Go.IntKind.i64 n7), (Go.Eng.SV.str s1)])], [] => G_laws_eqTwoWalked n n1 n2 n3 s n4 n5 n6 n7 s1 (fun b => K (Go.Eng.AV.sc (Go.Eng.SV.bool b)) [])
  | _, _ => none
def pa_laws_FnExactWalkTwo__o_impl_WalkTwo (N : Nat) (G_laws_eqTwoWalked : ∀ {R : Type} (n : Int) (n1 : Int) (n2 : Int) (n3 : Int) (s : ByteArray) (n4 : Int) (n5 : Int) (n6 : Int) (n7 : Int) (s1 : ByteArray) (k : Bool → Option R), Option R) (G_impl_WalkTwo : ∀ {R : Type} (s : ByteArray) (n : Int) (n1 : Int) (n2 : Int) (n3 : Int) (b : Bool) (k : Int → Int → Int → Int → ByteArray → Option R), Option R) (G_spec_WalkTwo : ∀ {R : Type} (s : ByteArray) (n : Int) (n1 : Int) (n2 : Int) (n3 : Int) (b : Bool) (k : Int → Int → Int → Int → ByteArray → Option R), Option R) {R : Type} (args : List AV) (H : Hp E) (K : AV → Hp E → Option R) : Option R :=
  match args, H with
  | [(Go.Eng.AV.sc (Go.Eng.SV.str s)), (Go.Eng.AV.sc (Go.Eng.SV.int Go.IntKind.i64 n)), (Go.Eng.AV.sc (Go.Eng.SV.int Go.IntKind.i64 n1)), (Go.Eng.AV.sc (Go.Eng.SV.int Go.IntKind.i64 n2)), (Go.Eng.AV.sc (Go.Eng.SV.int Go.IntKind.i64 n3)), (Go.Eng.AV.sc (Go.Eng.SV.bool b))], [] => G_impl_WalkTwo s n n1 n2 n3 b (fun n9 n10 n11 n12 s1 => K (Go.Eng.AV.agg [(Go.Eng.SV.int Go.IntKind.i64 n9), (Go.Eng.SV.int Go.IntKind.i64 n10), (Go.Eng.SV.int Go.IntKind.i64 n11), (Go.Eng.SV.int Go.IntKind.i64 n12), (Go.Eng.SV.str s1)]) [])
  | _, _ => none
def pa_laws_FnExactWalkTwo__o_spec_WalkTwo (N : Nat) (G_laws_eqTwoWalked : ∀ {R : Type} (n : Int) (n1 : Int) (n2 : Int) (n3 : Int) (s : ByteArray) (n4 : Int) (n5 : Int) (n6 : Int) (n7 : Int) (s1 : ByteArray) (k : Bool → Option R), Option R) (G_impl_WalkTwo : ∀ {R : Type} (s : ByteArray) (n : Int) (n1 : Int) (n2 : Int) (n3 : Int) (b : Bool) (k : Int → Int → Int → Int → ByteArray → Option R), Option R) (G_spec_WalkTwo : ∀ {R : Type} (s : ByteArray) (n : Int) (n1 : Int) (n2 : Int) (n3 : Int) (b : Bool) (k : Int → Int → Int → Int → ByteArray → Option R), Option R) {R : Type} (args : List AV) (H : Hp E) (K : AV → Hp E → Option R) : Option R :=
  match args, H with
  | [(Go.Eng.AV.sc (Go.Eng.SV.str s)), (Go.Eng.AV.sc (Go.Eng.SV.int Go.IntKind.i64 n)), (Go.Eng.AV.sc (Go.Eng.SV.int Go.IntKind.i64 n1)), (Go.Eng.AV.sc (Go.Eng.SV.int Go.IntKind.i64 n2)), (Go.Eng.AV.sc (Go.Eng.SV.int Go.IntKind.i64 n3)), (Go.Eng.AV.sc (Go.Eng.SV.bool b))], [] => G_spec_WalkTwo s n n1 n2 n3 b (fun n31 n32 n33 n34 s11 => K (Go.Eng.AV.agg [(Go.Eng.SV.int Go.IntKind.i64 n31), (Go.Eng.SV.int Go.IntKind.i64 n32), (Go.Eng.SV.int Go.IntKind.i64 n33), (Go.Eng.SV.int Go.IntKind.i64 n34), (Go.Eng.SV.str s11)]) [])
  | _, _ => none
noncomputable def OA_laws_FnExactWalkTwo (N : Nat) (G_laws_eqTwoWalked : ∀ {R : Type} (n : Int) (n1 : Int) (n2 : Int) (n3 : Int) (s : ByteArray) (n4 : Int) (n5 : Int) (n6 : Int) (n7 : Int) (s1 : ByteArray) (k : Bool → Option R), Option R) (G_impl_WalkTwo : ∀ {R : Type} (s : ByteArray) (n : Int) (n1 : Int) (n2 : Int) (n3 : Int) (b : Bool) (k : Int → Int → Int → Int → ByteArray → Option R), Option R) (G_spec_WalkTwo : ∀ {R : Type} (s : ByteArray) (n : Int) (n1 : Int) (n2 : Int) (n3 : Int) (b : Bool) (k : Int → Int → Int → Int → ByteArray → Option R), Option R) : Orc E := addFn 57 (pa_laws_FnExactWalkTwo__o_laws_eqTwoWalked N G_laws_eqTwoWalked G_impl_WalkTwo G_spec_WalkTwo) (addFn 56 (pa_laws_FnExactWalkTwo__o_impl_WalkTwo N G_laws_eqTwoWalked G_impl_WalkTwo G_spec_WalkTwo) (addFn 55 (pa_laws_FnExactWalkTwo__o_spec_WalkTwo N G_laws_eqTwoWalked G_impl_WalkTwo G_spec_WalkTwo) (noFn)))
theorem O_laws_FnExactWalkTwo_ok (N : Nat) : OrcOk (O_laws_FnExactWalkTwo N) := addFn_ok (o_laws_eqTwoWalked_ok N) (addFn_ok (o_impl_WalkTwo_ok N) (addFn_ok (o_spec_WalkTwo_ok N) (noFn_ok)))
def g_laws_FnExactWalkTwo (N : Nat) {R : Type} (s : ByteArray) (n : Int) (n1 : Int) (n2 : Int) (n3 : Int) (b : Bool) (k : Bool → Option R) : Option R :=
  (cond (decide (((((ByteArray.size s) : Nat) : Int) > (1048576 : Int))))
  (k Bool.true)
  (g_spec_WalkTwo N s n n1 n2 n3 b fun n4 n5 n6 n7 s1 =>
    (g_impl_WalkTwo N s n n1 n2 n3 b fun n8 n9 n10 n11 s2 =>
    (g_laws_eqTwoWalked N n8 n9 n10 n11 s2 n4 n5 n6 n7 s1 fun b1 =>
    (cond (!b1)
    (k Bool.false)
    (k Bool.true))))))
def ga_g_laws_FnExactWalkTwo (N : Nat) (G_laws_eqTwoWalked : ∀ {R : Type} (n : Int) (n1 : Int) (n2 : Int) (n3 : Int) (s : ByteArray) (n4 : Int) (n5 : Int) (n6 : Int) (n7 : Int) (s1 : ByteArray) (k : Bool → Option R), Option R) (G_impl_WalkTwo : ∀ {R : Type} (s : ByteArray) (n : Int) (n1 : Int) (n2 : Int) (n3 : Int) (b : Bool) (k : Int → Int → Int → Int → ByteArray → Option R), Option R) (G_spec_WalkTwo : ∀ {R : Type} (s : ByteArray) (n : Int) (n1 : Int) (n2 : Int) (n3 : Int) (b : Bool) (k : Int → Int → Int → Int → ByteArray → Option R), Option R) {R : Type} (s : ByteArray) (n : Int) (n1 : Int) (n2 : Int) (n3 : Int) (b : Bool) (k : Bool → Option R) : Option R :=
  (cond (decide (((((ByteArray.size s) : Nat) : Int) > (1048576 : Int))))
  (k Bool.true)
  (G_spec_WalkTwo s n n1 n2 n3 b fun n4 n5 n6 n7 s1 =>
    (G_impl_WalkTwo s n n1 n2 n3 b fun n8 n9 n10 n11 s2 =>
    (G_laws_eqTwoWalked n8 n9 n10 n11 s2 n4 n5 n6 n7 s1 fun b1 =>
    (cond (!b1)
    (k Bool.false)
    (k Bool.true))))))
theorem ea_e_laws_FnExactWalkTwo (N : Nat) (G_laws_eqTwoWalked : ∀ {R : Type} (n : Int) (n1 : Int) (n2 : Int) (n3 : Int) (s : ByteArray) (n4 : Int) (n5 : Int) (n6 : Int) (n7 : Int) (s1 : ByteArray) (k : Bool → Option R), Option R) (G_impl_WalkTwo : ∀ {R : Type} (s : ByteArray) (n : Int) (n1 : Int) (n2 : Int) (n3 : Int) (b : Bool) (k : Int → Int → Int → Int → ByteArray → Option R), Option R) (G_spec_WalkTwo : ∀ {R : Type} (s : ByteArray) (n : Int) (n1 : Int) (n2 : Int) (n3 : Int) (b : Bool) (k : Int → Int → Int → Int → ByteArray → Option R), Option R) {R : Type} (s : ByteArray) (n : Int) (n1 : Int) (n2 : Int) (n3 : Int) (b : Bool) (K : AV → Hp E → Option R) :
    runFnI (E := E) (OA_laws_FnExactWalkTwo N G_laws_eqTwoWalked G_impl_WalkTwo G_spec_WalkTwo) (noIt) sl_laws_FnExactWalkTwo J_laws_FnExactWalkTwo Go.Proofs.Try.f12 [(Go.Eng.AV.sc (Go.Eng.SV.str s)), (Go.Eng.AV.sc (Go.Eng.SV.int Go.IntKind.i64 n)), (Go.Eng.AV.sc (Go.Eng.SV.int Go.IntKind.i64 n1)), (Go.Eng.AV.sc (Go.Eng.SV.int Go.IntKind.i64 n2)), (Go.Eng.AV.sc (Go.Eng.SV.int Go.IntKind.i64 n3)), (Go.Eng.AV.sc (Go.Eng.SV.bool b))] [] K =
      ga_g_laws_FnExactWalkTwo N G_laws_eqTwoWalked G_impl_WalkTwo G_spec_WalkTwo s n n1 n2 n3 b (fun b2 => K (Go.Eng.AV.sc (Go.Eng.SV.bool b2)) []) := by kernel_rfl
theorem e_laws_FnExactWalkTwo (N : Nat) {R : Type} (s : ByteArray) (n : Int) (n1 : Int) (n2 : Int) (n3 : Int) (b : Bool) (K : AV → Hp E → Option R) :
    runFnI (E := E) (O_laws_FnExactWalkTwo N) (noIt) sl_laws_FnExactWalkTwo J_laws_FnExactWalkTwo Go.Proofs.Try.f12 [(Go.Eng.AV.sc (Go.Eng.SV.str s)), (Go.Eng.AV.sc (Go.Eng.SV.int Go.IntKind.i64 n)), (Go.Eng.AV.sc (Go.Eng.SV.int Go.IntKind.i64 n1)), (Go.Eng.AV.sc (Go.Eng.SV.int Go.IntKind.i64 n2)), (Go.Eng.AV.sc (Go.Eng.SV.int Go.IntKind.i64 n3)), (Go.Eng.AV.sc (Go.Eng.SV.bool b))] [] K =
      g_laws_FnExactWalkTwo N s n n1 n2 n3 b (fun b2 => K (Go.Eng.AV.sc (Go.Eng.SV.bool b2)) []) := castPr (by kernel_rfl) (ea_e_laws_FnExactWalkTwo N (g_laws_eqTwoWalked N) (g_impl_WalkTwo N) (g_spec_WalkTwo N) s n n1 n2 n3 b K)
def o_laws_FnExactWalkTwo (N : Nat) {R : Type} (args : List AV) (H : Hp E) (K : AV → Hp E → Option R) : Option R :=
  match args, H with
  | [(Go.Eng.AV.sc (Go.Eng.SV.str s)), (Go.Eng.AV.sc (Go.Eng.SV.int Go.IntKind.i64 n)), (Go.Eng.AV.sc (Go.Eng.SV.int Go.IntKind.i64 n1)), (Go.Eng.AV.sc (Go.Eng.SV.int Go.IntKind.i64 n2)), (Go.Eng.AV.sc (Go.Eng.SV.int Go.IntKind.i64 n3)), (Go.Eng.AV.sc (Go.Eng.SV.bool b))], [] => g_laws_FnExactWalkTwo N s n n1 n2 n3 b (fun b2 => K (Go.Eng.AV.sc (Go.Eng.SV.bool b2)) [])
  | _, _ => none
theorem o_laws_FnExactWalkTwo_ok (N : Nat) : FnOk E 12 (o_laws_FnExactWalkTwo N) := by
  intro R args H K r h
  unfold o_laws_FnExactWalkTwo at h
  dsimp only at h
  split at h
  · exact fnB_ok (ids := []) (top := []) ok (O_laws_FnExactWalkTwo_ok N) (jn_ok _ _ _) Go.Proofs.Try.func12 (by kernel_rfl) (IT := noIt) (sl := sl_laws_FnExactWalkTwo) (J := J_laws_FnExactWalkTwo) (K := K) (H := []) (noIt_ok) (by kernel_rfl) rfl ((e_laws_FnExactWalkTwo N _ _ _ _ _ _ K).trans h)
  · cases h
end Go.Sa
