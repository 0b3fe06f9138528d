import Derived.Test.YtflmjaehnbnjnaaSpec
import Derived.Test.YtflmjaehnbnjnaaPLb
import Derived.Test.YtflmjaehnbnjnaaW6
set_option linter.all false
namespace Go.Sa
open Go Go.Eng Go.Proofs
set_option maxRecDepth 100000
set_option maxHeartbeats 4000000
/-! ### loop.example/g00038/impl.WalkTwo$2 -/
abbrev sl_impl_WalkTwo_2_WWWWWWWWw : SlotT := []
abbrev J_impl_WalkTwo_2_WWWWWWWWw : JT := jn [(5, [(42, .b)]), (13, [(78, .b)])] [(80, [(12, .i .i64)])] []
noncomputable def O_impl_WalkTwo_2_WWWWWWWWw (N : Nat) : Orc E := addFn 34 (o_impl_yputWord_w N) (addFn 43 (o_impl_WalkTwo_1_WWWw N) (addFn 48 (o_impl_yputs N) (addFn 47 (o_impl_ylets N) (addFn 45 (o_impl_WalkTwo_2_1_WWWWw N) (noFn)))))
noncomputable def pa_impl_WalkTwo_2_WWWWWWWWw__o_impl_yputWord_w (N : Nat) (G_impl_yputWord_w : ∀ {R : Type} (b : Bool) (n : Int) (n1 : Int) (l : List Int) (k : (List Int) → Option R), Option R) {R : Type} (args : List AV) (H : Hp E) (K : AV → Hp E → Option R) : Option R :=
 match args, H with
 | [(AV.sc (SV.slc 0 none b)), (AV.sc (SV.int IntKind.i64 n)), (AV.sc (SV.int IntKind.i64 n1))], [(some (HE.mk false (HB.rows (B.u8 l))))] => G_impl_yputWord_w b n n1 l (fun l1 => K (AV.tup []) [(some (HE.mk false (HB.rows (B.u8 l1))))])
 | _, _ => none
noncomputable def pa_impl_WalkTwo_2_WWWWWWWWw__o_impl_WalkTwo_1_WWWw (N : Nat) (G_impl_WalkTwo_1_WWWw : ∀ {R : Type} (n : Int) (n1 : Int) (b : Bool) (n2 : Int) (n3 : Int) (n4 : Int) (n5 : Int) (n6 : Int) (s : ByteArray) (l : List Int) (k : Int → Bool → Int → Int → Int → (List Int) → Option R), Option R) {R : Type} (args : List AV) (H : Hp E) (K : AV → Hp E → Option R) : Option R :=
 match args, H with
 | [(AV.sc (SV.int IntKind.i64 n)), (AV.sc (SV.int IntKind.i64 n1)), (AV.sc (SV.ptr 0 0 0)), (AV.sc (SV.ptr 1 0 0)), (AV.sc (SV.ptr 2 0 0))], [(some (HE.mk false (HB.exp none [(SV.slc 3 none b)]))), (some (HE.mk false (HB.exp none [(SV.int IntKind.i64 n2)]))), (some (HE.mk false (HB.exp none [(SV.int IntKind.i64 n3), (SV.int IntKind.i64 n4), (SV.int IntKind.i64 n5), (SV.int IntKind.i64 n6), (SV.str s)]))), (some (HE.mk false (HB.rows (B.u8 l))))] => G_impl_WalkTwo_1_WWWw n n1 b n2 n3 n4 n5 n6 s l (fun n15 b2 n16 n17 n18 l2 => K (AV.tup [(false, [(SV.int IntKind.i64 n15)]), (false, [(SV.bool b2)])]) [(some (HE.mk false (HB.exp none [(SV.slc 3 none b)]))), (some (HE.mk false (HB.exp none [(SV.int IntKind.i64 n2)]))), (some (HE.mk false (HB.exp none [(SV.int IntKind.i64 n16), (SV.int IntKind.i64 n17), (SV.int IntKind.i64 n5), (SV.int IntKind.i64 n18), (SV.str s)]))), (some (HE.mk false (HB.rows (B.u8 l2))))])
 | _, _ => none
noncomputable def pa_impl_WalkTwo_2_WWWWWWWWw__o_impl_yputs (N : Nat) (G_impl_yputs : ∀ {R : Type} (n : Int) (k : Int → Option R), Option R) {R : Type} (args : List AV) (H : Hp E) (K : AV → Hp E → Option R) : Option R :=
 match args, H with
 | [(AV.sc (SV.int IntKind.i64 n))], [] => G_impl_yputs n (fun n1 => K (AV.sc (SV.int IntKind.i64 n1)) [])
 | _, _ => none
noncomputable def pa_impl_WalkTwo_2_WWWWWWWWw__o_impl_ylets (N : Nat) (G_impl_ylets : ∀ {R : Type} (n : Int) (n1 : Int) (b : Bool) (k : Bool → Option R), Option R) {R : Type} (args : List AV) (H : Hp E) (K : AV → Hp E → Option R) : Option R :=
 match args, H with
 | [(AV.sc (SV.int IntKind.i64 n)), (AV.sc (SV.int IntKind.i64 n1)), (AV.sc (SV.bool b))], [] => G_impl_ylets n n1 b (fun b1 => K (AV.sc (SV.bool b1)) [])
 | _, _ => none
noncomputable def pa_impl_WalkTwo_2_WWWWWWWWw__o_impl_WalkTwo_2_1_WWWWw (N : Nat) (G_impl_WalkTwo_2_1_WWWWw : ∀ {R : Type} (n : Int) (n1 : Int) (n2 : Int) (n3 : Int) (n4 : Int) (s : ByteArray) (b : Bool) (n5 : Int) (l : List Int) (k : Int → Bool → Int → Int → Int → (List Int) → Option R), Option R) {R : Type} (args : List AV) (H : Hp E) (K : AV → Hp E → Option R) : Option R :=
 match args, H with
 | [(AV.sc (SV.int IntKind.i64 n)), (AV.sc (SV.ptr 0 0 0)), (AV.sc (SV.ptr 1 0 0)), (AV.sc (SV.ptr 2 0 0))], [(some (HE.mk false (HB.exp none [(SV.fn 43 [(2, (0, 0)), (3, (0, 0)), (1, (0, 0))])]))), (some (HE.mk false (HB.exp none [(SV.int IntKind.i64 n1), (SV.int IntKind.i64 n2), (SV.int IntKind.i64 n3), (SV.int IntKind.i64 n4), (SV.str s)]))), (some (HE.mk false (HB.exp none [(SV.slc 4 none b)]))), (some (HE.mk false (HB.exp none [(SV.int IntKind.i64 n5)]))), (some (HE.mk false (HB.rows (B.u8 l))))] => G_impl_WalkTwo_2_1_WWWWw n n1 n2 n3 n4 s b n5 l (fun n11 b2 n12 n13 n14 l2 => K (AV.tup [(false, [(SV.int IntKind.i64 n11)]), (false, [(SV.bool b2)])]) [(some (HE.mk false (HB.exp none [(SV.fn 43 [(2, (0, 0)), (3, (0, 0)), (1, (0, 0))])]))), (some (HE.mk false (HB.exp none [(SV.int IntKind.i64 n12), (SV.int IntKind.i64 n13), (SV.int IntKind.i64 n3), (SV.int IntKind.i64 n14), (SV.str s)]))), (some (HE.mk false (HB.exp none [(SV.slc 4 none b)]))), (some (HE.mk false (HB.exp none [(SV.int IntKind.i64 n5)]))), (some (HE.mk false (HB.rows (B.u8 l2))))])
 | _, _ => none
noncomputable def OA_impl_WalkTwo_2_WWWWWWWWw (N : Nat) (G_impl_yputWord_w : ∀ {R : Type} (b : Bool) (n : Int) (n1 : Int) (l : List Int) (k : (List Int) → Option R), Option R) (G_impl_WalkTwo_1_WWWw : ∀ {R : Type} (n : Int) (n1 : Int) (b : Bool) (n2 : Int) (n3 : Int) (n4 : Int) (n5 : Int) (n6 : Int) (s : ByteArray) (l : List Int) (k : Int → Bool → Int → Int → Int → (List Int) → Option R), Option R) (G_impl_yputs : ∀ {R : Type} (n : Int) (k : Int → Option R), Option R) (G_impl_ylets : ∀ {R : Type} (n : Int) (n1 : Int) (b : Bool) (k : Bool → Option R), Option R) (G_impl_WalkTwo_2_1_WWWWw : ∀ {R : Type} (n : Int) (n1 : Int) (n2 : Int) (n3 : Int) (n4 : Int) (s : ByteArray) (b : Bool) (n5 : Int) (l : List Int) (k : Int → Bool → Int → Int → Int → (List Int) → Option R), Option R) : Orc E := addFn 34 (pa_impl_WalkTwo_2_WWWWWWWWw__o_impl_yputWord_w N G_impl_yputWord_w) (addFn 43 (pa_impl_WalkTwo_2_WWWWWWWWw__o_impl_WalkTwo_1_WWWw N G_impl_WalkTwo_1_WWWw) (addFn 48 (pa_impl_WalkTwo_2_WWWWWWWWw__o_impl_yputs N G_impl_yputs) (addFn 47 (pa_impl_WalkTwo_2_WWWWWWWWw__o_impl_ylets N G_impl_ylets) (addFn 45 (pa_impl_WalkTwo_2_WWWWWWWWw__o_impl_WalkTwo_2_1_WWWWw N G_impl_WalkTwo_2_1_WWWWw) (noFn)))))
theorem O_impl_WalkTwo_2_WWWWWWWWw_ok (N : Nat) : OrcOk (O_impl_WalkTwo_2_WWWWWWWWw N) := addFn_ok (o_impl_yputWord_w_ok N) (addFn_ok (o_impl_WalkTwo_1_WWWw_ok N) (addFn_ok (o_impl_yputs_ok N) (addFn_ok (o_impl_ylets_ok N) (addFn_ok (o_impl_WalkTwo_2_1_WWWWw_ok N) (noFn_ok)))))
noncomputable def g_impl_WalkTwo_2_WWWWWWWWw (N : Nat) {R : Type} (n : Int) (n1 : Int) (n2 : Int) (n3 : Int) (s : ByteArray) (b : Bool) (n4 : Int) (n5 : Int) (n6 : Int) (b1 : Bool) (n7 : Int) (l : List Int) (k : Int → Int → Int → Int → Int → (List Int) → Option R) : Option R :=
 (g_impl_WalkTwo_2_1_WWWWw N (IntKind.wrap IntKind.i64 ((IntKind.wrap IntKind.i64 (n4 * (256 : Int))) + (IntKind.wrap IntKind.i64 ((4 : Int) * (IntKind.wrap IntKind.i64 (((BitVec.toNat ((BitVec.ofInt 64 (Int.fdiv n5 (8192 : Int))) &&& (BitVec.ofInt 64 (31 : Int)))) : Nat) : Int)))))) n n1 n2 n3 s b n7 l fun n8 b2 n9 n10 n11 l1 =>
 (cond (!b2)
 (k n9 n10 n2 n11 n6 l1)
 (oK (cond ((IntKind.wrap IntKind.i64 (((BitVec.toNat ((BitVec.ofInt 64 n8) &&& (BitVec.ofInt 64 (1 : Int)))) : Nat) : Int)) != (0 : Int))
 (some ((IntKind.wrap IntKind.i64 (((BitVec.toNat ((BitVec.ofInt 64 n8) &&& (BitVec.ofInt 64 (14 : Int)))) : Nat) : Int)) == (0 : Int)))
 (some false)) fun j =>
 (cond j
 (cond (decide (((Int.fdiv n8 (256 : Int)) ≥ (1024 : Int))))
 (k (2 : Int) n10 n2 n11 n6 l1)
 (g_impl_WalkTwo_2_1_WWWWw N (IntKind.wrap IntKind.i64 ((IntKind.wrap IntKind.i64 ((Int.fdiv n8 (256 : Int)) * (256 : Int))) + (IntKind.wrap IntKind.i64 ((4 : Int) * (IntKind.wrap IntKind.i64 (((BitVec.toNat ((BitVec.ofInt 64 (Int.fdiv n5 (256 : Int))) &&& (BitVec.ofInt 64 (31 : Int)))) : Nat) : Int)))))) n9 n10 n2 n11 s b n7 l1 fun n12 b3 n13 n14 n15 l2 =>
 (cond (!b3)
 (k n13 n14 n2 n15 n6 l2)
 (oK (g_impl_ylets N (IntKind.wrap IntKind.i64 (((BitVec.toNat ((BitVec.ofInt 64 n12) &&& (BitVec.ofInt 64 (255 : Int)))) : Nat) : Int)) n6 b1 fun b4 =>
 (some (!b4))) fun j1 =>
 (cond j1
 (k (1 : Int) n14 n2 n15 n6 l2)
 (oK (some (Int.fdiv n12 (256 : Int))) fun j2 =>
 (cond (decide ((j2 ≥ (1024 : Int))))
 (k (2 : Int) n14 n2 n15 n6 l2)
 (g_impl_yputs N n6 fun n16 =>
 (cond ((IntKind.wrap IntKind.i64 (((BitVec.toNat ((BitVec.ofInt 64 n12) &&& (BitVec.ofInt 64 n16))) : Nat) : Int)) != n16)
 (g_impl_WalkTwo_1_WWWw N (IntKind.wrap IntKind.i64 ((IntKind.wrap IntKind.i64 ((Int.fdiv n8 (256 : Int)) * (256 : Int))) + (IntKind.wrap IntKind.i64 ((4 : Int) * (IntKind.wrap IntKind.i64 (((BitVec.toNat ((BitVec.ofInt 64 (Int.fdiv n5 (256 : Int))) &&& (BitVec.ofInt 64 (31 : Int)))) : Nat) : Int)))))) (2 : Int) b n7 n13 n14 n2 n15 s l2 fun n17 b5 n18 n19 n20 l3 =>
 (cond (!b5)
 (k n18 n19 n2 n20 n6 l3)
 (g_impl_yputWord_w N b n17 (IntKind.wrap IntKind.i64 (((BitVec.toNat ((BitVec.ofInt 64 n12) ||| (BitVec.ofInt 64 n16))) : Nat) : Int)) l3 fun l4 =>
 (cond (n6 == (3 : Int))
 (g_impl_WalkTwo_1_WWWw N (IntKind.wrap IntKind.i64 ((IntKind.wrap IntKind.i64 (j2 * (256 : Int))) + (IntKind.wrap IntKind.i64 (((BitVec.toNat ((BitVec.ofInt 64 n5) &&& (BitVec.ofInt 64 (255 : Int)))) : Nat) : Int)))) (1 : Int) b n7 n18 n19 n2 n20 s l4 fun n21 b6 n22 n23 n24 l5 =>
 (cond b6
 (k n22 (IntKind.wrap IntKind.i64 ((IntKind.wrap IntKind.i64 (j2 * (256 : Int))) + (IntKind.wrap IntKind.i64 (((BitVec.toNat ((BitVec.ofInt 64 n5) &&& (BitVec.ofInt 64 (255 : Int)))) : Nat) : Int)))) n21 n24 (1 : Int) l5)
 (k n22 n23 n2 n24 (1 : Int) l5)))
 (g_impl_WalkTwo_1_WWWw N (IntKind.wrap IntKind.i64 ((IntKind.wrap IntKind.i64 (j2 * (256 : Int))) + (IntKind.wrap IntKind.i64 (((BitVec.toNat ((BitVec.ofInt 64 n5) &&& (BitVec.ofInt 64 (255 : Int)))) : Nat) : Int)))) n6 b n7 n18 n19 n2 n20 s l4 fun n25 b7 n26 n27 n28 l6 =>
 (cond b7
 (k n26 (IntKind.wrap IntKind.i64 ((IntKind.wrap IntKind.i64 (j2 * (256 : Int))) + (IntKind.wrap IntKind.i64 (((BitVec.toNat ((BitVec.ofInt 64 n5) &&& (BitVec.ofInt 64 (255 : Int)))) : Nat) : Int)))) n25 n28 n6 l6)
 (k n26 n27 n2 n28 n6 l6)))))))
 (cond (n6 == (3 : Int))
 (g_impl_WalkTwo_1_WWWw N (IntKind.wrap IntKind.i64 ((IntKind.wrap IntKind.i64 (j2 * (256 : Int))) + (IntKind.wrap IntKind.i64 (((BitVec.toNat ((BitVec.ofInt 64 n5) &&& (BitVec.ofInt 64 (255 : Int)))) : Nat) : Int)))) (1 : Int) b n7 n13 n14 n2 n15 s l2 fun n29 b8 n30 n31 n32 l7 =>
 (cond b8
 (k n30 (IntKind.wrap IntKind.i64 ((IntKind.wrap IntKind.i64 (j2 * (256 : Int))) + (IntKind.wrap IntKind.i64 (((BitVec.toNat ((BitVec.ofInt 64 n5) &&& (BitVec.ofInt 64 (255 : Int)))) : Nat) : Int)))) n29 n32 (1 : Int) l7)
 (k n30 n31 n2 n32 (1 : Int) l7)))
 (g_impl_WalkTwo_1_WWWw N (IntKind.wrap IntKind.i64 ((IntKind.wrap IntKind.i64 (j2 * (256 : Int))) + (IntKind.wrap IntKind.i64 (((BitVec.toNat ((BitVec.ofInt 64 n5) &&& (BitVec.ofInt 64 (255 : Int)))) : Nat) : Int)))) n6 b n7 n13 n14 n2 n15 s l2 fun n33 b9 n34 n35 n36 l8 =>
 (cond b9
 (k n34 (IntKind.wrap IntKind.i64 ((IntKind.wrap IntKind.i64 (j2 * (256 : Int))) + (IntKind.wrap IntKind.i64 (((BitVec.toNat ((BitVec.ofInt 64 n5) &&& (BitVec.ofInt 64 (255 : Int)))) : Nat) : Int)))) n33 n36 n6 l8)
 (k n34 n35 n2 n36 n6 l8)))))))))))))
 (oK (cond ((Int.tmod (Int.fdiv n8 (256 : Int)) (32 : Int)) != (0 : Int))
 (some true)
 (g_impl_ylets N (IntKind.wrap IntKind.i64 (((BitVec.toNat ((BitVec.ofInt 64 n8) &&& (BitVec.ofInt 64 (255 : Int)))) : Nat) : Int)) n6 b1 fun b10 =>
 (some (!b10)))) fun j3 =>
 (cond j3
 (k (1 : Int) n10 n2 n11 n6 l1)
 (oK (some (IntKind.wrap IntKind.i64 ((Int.fdiv n8 (256 : Int)) + (IntKind.wrap IntKind.i64 (((BitVec.toNat ((BitVec.ofInt 64 (Int.fdiv n5 (256 : Int))) &&& (BitVec.ofInt 64 (31 : Int)))) : Nat) : Int))))) fun j4 =>
 (cond (decide ((j4 ≥ (1024 : Int))))
 (k (2 : Int) n10 n2 n11 n6 l1)
 (g_impl_yputs N n6 fun n37 =>
 (cond ((IntKind.wrap IntKind.i64 (((BitVec.toNat ((BitVec.ofInt 64 n8) &&& (BitVec.ofInt 64 n37))) : Nat) : Int)) != n37)
 (g_impl_WalkTwo_1_WWWw N (IntKind.wrap IntKind.i64 ((IntKind.wrap IntKind.i64 (n4 * (256 : Int))) + (IntKind.wrap IntKind.i64 ((4 : Int) * (IntKind.wrap IntKind.i64 (((BitVec.toNat ((BitVec.ofInt 64 (Int.fdiv n5 (8192 : Int))) &&& (BitVec.ofInt 64 (31 : Int)))) : Nat) : Int)))))) (2 : Int) b n7 n9 n10 n2 n11 s l1 fun n38 b11 n39 n40 n41 l9 =>
 (cond (!b11)
 (k n39 n40 n2 n41 n6 l9)
 (g_impl_yputWord_w N b n38 (IntKind.wrap IntKind.i64 (((BitVec.toNat ((BitVec.ofInt 64 n8) ||| (BitVec.ofInt 64 n37))) : Nat) : Int)) l9 fun l10 =>
 (cond (n6 == (3 : Int))
 (g_impl_WalkTwo_1_WWWw N (IntKind.wrap IntKind.i64 ((IntKind.wrap IntKind.i64 (j4 * (256 : Int))) + (IntKind.wrap IntKind.i64 (((BitVec.toNat ((BitVec.ofInt 64 n5) &&& (BitVec.ofInt 64 (255 : Int)))) : Nat) : Int)))) (1 : Int) b n7 n39 n40 n2 n41 s l10 fun n42 b12 n43 n44 n45 l11 =>
 (cond b12
 (k n43 (IntKind.wrap IntKind.i64 ((IntKind.wrap IntKind.i64 (j4 * (256 : Int))) + (IntKind.wrap IntKind.i64 (((BitVec.toNat ((BitVec.ofInt 64 n5) &&& (BitVec.ofInt 64 (255 : Int)))) : Nat) : Int)))) n42 n45 (1 : Int) l11)
 (k n43 n44 n2 n45 (1 : Int) l11)))
 (g_impl_WalkTwo_1_WWWw N (IntKind.wrap IntKind.i64 ((IntKind.wrap IntKind.i64 (j4 * (256 : Int))) + (IntKind.wrap IntKind.i64 (((BitVec.toNat ((BitVec.ofInt 64 n5) &&& (BitVec.ofInt 64 (255 : Int)))) : Nat) : Int)))) n6 b n7 n39 n40 n2 n41 s l10 fun n46 b13 n47 n48 n49 l12 =>
 (cond b13
 (k n47 (IntKind.wrap IntKind.i64 ((IntKind.wrap IntKind.i64 (j4 * (256 : Int))) + (IntKind.wrap IntKind.i64 (((BitVec.toNat ((BitVec.ofInt 64 n5) &&& (BitVec.ofInt 64 (255 : Int)))) : Nat) : Int)))) n46 n49 n6 l12)
 (k n47 n48 n2 n49 n6 l12)))))))
 (cond (n6 == (3 : Int))
 (g_impl_WalkTwo_1_WWWw N (IntKind.wrap IntKind.i64 ((IntKind.wrap IntKind.i64 (j4 * (256 : Int))) + (IntKind.wrap IntKind.i64 (((BitVec.toNat ((BitVec.ofInt 64 n5) &&& (BitVec.ofInt 64 (255 : Int)))) : Nat) : Int)))) (1 : Int) b n7 n9 n10 n2 n11 s l1 fun n50 b14 n51 n52 n53 l13 =>
 (cond b14
 (k n51 (IntKind.wrap IntKind.i64 ((IntKind.wrap IntKind.i64 (j4 * (256 : Int))) + (IntKind.wrap IntKind.i64 (((BitVec.toNat ((BitVec.ofInt 64 n5) &&& (BitVec.ofInt 64 (255 : Int)))) : Nat) : Int)))) n50 n53 (1 : Int) l13)
 (k n51 n52 n2 n53 (1 : Int) l13)))
 (g_impl_WalkTwo_1_WWWw N (IntKind.wrap IntKind.i64 ((IntKind.wrap IntKind.i64 (j4 * (256 : Int))) + (IntKind.wrap IntKind.i64 (((BitVec.toNat ((BitVec.ofInt 64 n5) &&& (BitVec.ofInt 64 (255 : Int)))) : Nat) : Int)))) n6 b n7 n9 n10 n2 n11 s l1 fun n54 b15 n55 n56 n57 l14 =>
 (cond b15
 (k n55 (IntKind.wrap IntKind.i64 ((IntKind.wrap IntKind.i64 (j4 * (256 : Int))) + (IntKind.wrap IntKind.i64 (((BitVec.toNat ((BitVec.ofInt 64 n5) &&& (BitVec.ofInt 64 (255 : Int)))) : Nat) : Int)))) n54 n57 n6 l14)
 (k n55 n56 n2 n57 n6 l14))))))))))))))
noncomputable def ga_g_impl_WalkTwo_2_WWWWWWWWw (N : Nat) (G_impl_yputWord_w : ∀ {R : Type} (b : Bool) (n : Int) (n1 : Int) (l : List Int) (k : (List Int) → Option R), Option R) (G_impl_WalkTwo_1_WWWw : ∀ {R : Type} (n : Int) (n1 : Int) (b : Bool) (n2 : Int) (n3 : Int) (n4 : Int) (n5 : Int) (n6 : Int) (s : ByteArray) (l : List Int) (k : Int → Bool → Int → Int → Int → (List Int) → Option R), Option R) (G_impl_yputs : ∀ {R : Type} (n : Int) (k : Int → Option R), Option R) (G_impl_ylets : ∀ {R : Type} (n : Int) (n1 : Int) (b : Bool) (k : Bool → Option R), Option R) (G_impl_WalkTwo_2_1_WWWWw : ∀ {R : Type} (n : Int) (n1 : Int) (n2 : Int) (n3 : Int) (n4 : Int) (s : ByteArray) (b : Bool) (n5 : Int) (l : List Int) (k : Int → Bool → Int → Int → Int → (List Int) → Option R), Option R) {R : Type} (n : Int) (n1 : Int) (n2 : Int) (n3 : Int) (s : ByteArray) (b : Bool) (n4 : Int) (n5 : Int) (n6 : Int) (b1 : Bool) (n7 : Int) (l : List Int) (k : Int → Int → Int → Int → Int → (List Int) → Option R) : Option R :=
 (G_impl_WalkTwo_2_1_WWWWw (IntKind.wrap IntKind.i64 ((IntKind.wrap IntKind.i64 (n4 * (256 : Int))) + (IntKind.wrap IntKind.i64 ((4 : Int) * (IntKind.wrap IntKind.i64 (((BitVec.toNat ((BitVec.ofInt 64 (Int.fdiv n5 (8192 : Int))) &&& (BitVec.ofInt 64 (31 : Int)))) : Nat) : Int)))))) n n1 n2 n3 s b n7 l fun n8 b2 n9 n10 n11 l1 =>
 (cond (!b2)
 (k n9 n10 n2 n11 n6 l1)
 (oK (cond ((IntKind.wrap IntKind.i64 (((BitVec.toNat ((BitVec.ofInt 64 n8) &&& (BitVec.ofInt 64 (1 : Int)))) : Nat) : Int)) != (0 : Int))
 (some ((IntKind.wrap IntKind.i64 (((BitVec.toNat ((BitVec.ofInt 64 n8) &&& (BitVec.ofInt 64 (14 : Int)))) : Nat) : Int)) == (0 : Int)))
 (some false)) fun j =>
 (cond j
 (cond (decide (((Int.fdiv n8 (256 : Int)) ≥ (1024 : Int))))
 (k (2 : Int) n10 n2 n11 n6 l1)
 (G_impl_WalkTwo_2_1_WWWWw (IntKind.wrap IntKind.i64 ((IntKind.wrap IntKind.i64 ((Int.fdiv n8 (256 : Int)) * (256 : Int))) + (IntKind.wrap IntKind.i64 ((4 : Int) * (IntKind.wrap IntKind.i64 (((BitVec.toNat ((BitVec.ofInt 64 (Int.fdiv n5 (256 : Int))) &&& (BitVec.ofInt 64 (31 : Int)))) : Nat) : Int)))))) n9 n10 n2 n11 s b n7 l1 fun n12 b3 n13 n14 n15 l2 =>
 (cond (!b3)
 (k n13 n14 n2 n15 n6 l2)
 (oK (G_impl_ylets (IntKind.wrap IntKind.i64 (((BitVec.toNat ((BitVec.ofInt 64 n12) &&& (BitVec.ofInt 64 (255 : Int)))) : Nat) : Int)) n6 b1 fun b4 =>
 (some (!b4))) fun j1 =>
 (cond j1
 (k (1 : Int) n14 n2 n15 n6 l2)
 (oK (some (Int.fdiv n12 (256 : Int))) fun j2 =>
 (cond (decide ((j2 ≥ (1024 : Int))))
 (k (2 : Int) n14 n2 n15 n6 l2)
 (G_impl_yputs n6 fun n16 =>
 (cond ((IntKind.wrap IntKind.i64 (((BitVec.toNat ((BitVec.ofInt 64 n12) &&& (BitVec.ofInt 64 n16))) : Nat) : Int)) != n16)
 (G_impl_WalkTwo_1_WWWw (IntKind.wrap IntKind.i64 ((IntKind.wrap IntKind.i64 ((Int.fdiv n8 (256 : Int)) * (256 : Int))) + (IntKind.wrap IntKind.i64 ((4 : Int) * (IntKind.wrap IntKind.i64 (((BitVec.toNat ((BitVec.ofInt 64 (Int.fdiv n5 (256 : Int))) &&& (BitVec.ofInt 64 (31 : Int)))) : Nat) : Int)))))) (2 : Int) b n7 n13 n14 n2 n15 s l2 fun n17 b5 n18 n19 n20 l3 =>
 (cond (!b5)
 (k n18 n19 n2 n20 n6 l3)
 (G_impl_yputWord_w b n17 (IntKind.wrap IntKind.i64 (((BitVec.toNat ((BitVec.ofInt 64 n12) ||| (BitVec.ofInt 64 n16))) : Nat) : Int)) l3 fun l4 =>
 (cond (n6 == (3 : Int))
 (G_impl_WalkTwo_1_WWWw (IntKind.wrap IntKind.i64 ((IntKind.wrap IntKind.i64 (j2 * (256 : Int))) + (IntKind.wrap IntKind.i64 (((BitVec.toNat ((BitVec.ofInt 64 n5) &&& (BitVec.ofInt 64 (255 : Int)))) : Nat) : Int)))) (1 : Int) b n7 n18 n19 n2 n20 s l4 fun n21 b6 n22 n23 n24 l5 =>
 (cond b6
 (k n22 (IntKind.wrap IntKind.i64 ((IntKind.wrap IntKind.i64 (j2 * (256 : Int))) + (IntKind.wrap IntKind.i64 (((BitVec.toNat ((BitVec.ofInt 64 n5) &&& (BitVec.ofInt 64 (255 : Int)))) : Nat) : Int)))) n21 n24 (1 : Int) l5)
 (k n22 n23 n2 n24 (1 : Int) l5)))
 (G_impl_WalkTwo_1_WWWw (IntKind.wrap IntKind.i64 ((IntKind.wrap IntKind.i64 (j2 * (256 : Int))) + (IntKind.wrap IntKind.i64 (((BitVec.toNat ((BitVec.ofInt 64 n5) &&& (BitVec.ofInt 64 (255 : Int)))) : Nat) : Int)))) n6 b n7 n18 n19 n2 n20 s l4 fun n25 b7 n26 n27 n28 l6 =>
 (cond b7
 (k n26 (IntKind.wrap IntKind.i64 ((IntKind.wrap IntKind.i64 (j2 * (256 : Int))) + (IntKind.wrap IntKind.i64 (((BitVec.toNat ((BitVec.ofInt 64 n5) &&& (BitVec.ofInt 64 (255 : Int)))) : Nat) : Int)))) n25 n28 n6 l6)
 (k n26 n27 n2 n28 n6 l6)))))))
 (cond (n6 == (3 : Int))
 (G_impl_WalkTwo_1_WWWw (IntKind.wrap IntKind.i64 ((IntKind.wrap IntKind.i64 (j2 * (256 : Int))) + (IntKind.wrap IntKind.i64 (((BitVec.toNat ((BitVec.ofInt 64 n5) &&& (BitVec.ofInt 64 (255 : Int)))) : Nat) : Int)))) (1 : Int) b n7 n13 n14 n2 n15 s l2 fun n29 b8 n30 n31 n32 l7 =>
 (cond b8
 (k n30 (IntKind.wrap IntKind.i64 ((IntKind.wrap IntKind.i64 (j2 * (256 : Int))) + (IntKind.wrap IntKind.i64 (((BitVec.toNat ((BitVec.ofInt 64 n5) &&& (BitVec.ofInt 64 (255 : Int)))) : Nat) : Int)))) n29 n32 (1 : Int) l7)
 (k n30 n31 n2 n32 (1 : Int) l7)))
 (G_impl_WalkTwo_1_WWWw (IntKind.wrap IntKind.i64 ((IntKind.wrap IntKind.i64 (j2 * (256 : Int))) + (IntKind.wrap IntKind.i64 (((BitVec.toNat ((BitVec.ofInt 64 n5) &&& (BitVec.ofInt 64 (255 : Int)))) : Nat) : Int)))) n6 b n7 n13 n14 n2 n15 s l2 fun n33 b9 n34 n35 n36 l8 =>
 (cond b9
 (k n34 (IntKind.wrap IntKind.i64 ((IntKind.wrap IntKind.i64 (j2 * (256 : Int))) + (IntKind.wrap IntKind.i64 (((BitVec.toNat ((BitVec.ofInt 64 n5) &&& (BitVec.ofInt 64 (255 : Int)))) : Nat) : Int)))) n33 n36 n6 l8)
 (k n34 n35 n2 n36 n6 l8)))))))))))))
 (oK (cond ((Int.tmod (Int.fdiv n8 (256 : Int)) (32 : Int)) != (0 : Int))
 (some true)
 (G_impl_ylets (IntKind.wrap IntKind.i64 (((BitVec.toNat ((BitVec.ofInt 64 n8) &&& (BitVec.ofInt 64 (255 : Int)))) : Nat) : Int)) n6 b1 fun b10 =>
 (some (!b10)))) fun j3 =>
 (cond j3
 (k (1 : Int) n10 n2 n11 n6 l1)
 (oK (some (IntKind.wrap IntKind.i64 ((Int.fdiv n8 (256 : Int)) + (IntKind.wrap IntKind.i64 (((BitVec.toNat ((BitVec.ofInt 64 (Int.fdiv n5 (256 : Int))) &&& (BitVec.ofInt 64 (31 : Int)))) : Nat) : Int))))) fun j4 =>
 (cond (decide ((j4 ≥ (1024 : Int))))
 (k (2 : Int) n10 n2 n11 n6 l1)
 (G_impl_yputs n6 fun n37 =>
 (cond ((IntKind.wrap IntKind.i64 (((BitVec.toNat ((BitVec.ofInt 64 n8) &&& (BitVec.ofInt 64 n37))) : Nat) : Int)) != n37)
 (G_impl_WalkTwo_1_WWWw (IntKind.wrap IntKind.i64 ((IntKind.wrap IntKind.i64 (n4 * (256 : Int))) + (IntKind.wrap IntKind.i64 ((4 : Int) * (IntKind.wrap IntKind.i64 (((BitVec.toNat ((BitVec.ofInt 64 (Int.fdiv n5 (8192 : Int))) &&& (BitVec.ofInt 64 (31 : Int)))) : Nat) : Int)))))) (2 : Int) b n7 n9 n10 n2 n11 s l1 fun n38 b11 n39 n40 n41 l9 =>
 (cond (!b11)
 (k n39 n40 n2 n41 n6 l9)
 (G_impl_yputWord_w b n38 (IntKind.wrap IntKind.i64 (((BitVec.toNat ((BitVec.ofInt 64 n8) ||| (BitVec.ofInt 64 n37))) : Nat) : Int)) l9 fun l10 =>
 (cond (n6 == (3 : Int))
 (G_impl_WalkTwo_1_WWWw (IntKind.wrap IntKind.i64 ((IntKind.wrap IntKind.i64 (j4 * (256 : Int))) + (IntKind.wrap IntKind.i64 (((BitVec.toNat ((BitVec.ofInt 64 n5) &&& (BitVec.ofInt 64 (255 : Int)))) : Nat) : Int)))) (1 : Int) b n7 n39 n40 n2 n41 s l10 fun n42 b12 n43 n44 n45 l11 =>
 (cond b12
 (k n43 (IntKind.wrap IntKind.i64 ((IntKind.wrap IntKind.i64 (j4 * (256 : Int))) + (IntKind.wrap IntKind.i64 (((BitVec.toNat ((BitVec.ofInt 64 n5) &&& (BitVec.ofInt 64 (255 : Int)))) : Nat) : Int)))) n42 n45 (1 : Int) l11)
 (k n43 n44 n2 n45 (1 : Int) l11)))
 (G_impl_WalkTwo_1_WWWw (IntKind.wrap IntKind.i64 ((IntKind.wrap IntKind.i64 (j4 * (256 : Int))) + (IntKind.wrap IntKind.i64 (((BitVec.toNat ((BitVec.ofInt 64 n5) &&& (BitVec.ofInt 64 (255 : Int)))) : Nat) : Int)))) n6 b n7 n39 n40 n2 n41 s l10 fun n46 b13 n47 n48 n49 l12 =>
 (cond b13
 (k n47 (IntKind.wrap IntKind.i64 ((IntKind.wrap IntKind.i64 (j4 * (256 : Int))) + (IntKind.wrap IntKind.i64 (((BitVec.toNat ((BitVec.ofInt 64 n5) &&& (BitVec.ofInt 64 (255 : Int)))) : Nat) : Int)))) n46 n49 n6 l12)
 (k n47 n48 n2 n49 n6 l12)))))))
 (cond (n6 == (3 : Int))
 (G_impl_WalkTwo_1_WWWw (IntKind.wrap IntKind.i64 ((IntKind.wrap IntKind.i64 (j4 * (256 : Int))) + (IntKind.wrap IntKind.i64 (((BitVec.toNat ((BitVec.ofInt 64 n5) &&& (BitVec.ofInt 64 (255 : Int)))) : Nat) : Int)))) (1 : Int) b n7 n9 n10 n2 n11 s l1 fun n50 b14 n51 n52 n53 l13 =>
 (cond b14
 (k n51 (IntKind.wrap IntKind.i64 ((IntKind.wrap IntKind.i64 (j4 * (256 : Int))) + (IntKind.wrap IntKind.i64 (((BitVec.toNat ((BitVec.ofInt 64 n5) &&& (BitVec.ofInt 64 (255 : Int)))) : Nat) : Int)))) n50 n53 (1 : Int) l13)
 (k n51 n52 n2 n53 (1 : Int) l13)))
 (G_impl_WalkTwo_1_WWWw (IntKind.wrap IntKind.i64 ((IntKind.wrap IntKind.i64 (j4 * (256 : Int))) + (IntKind.wrap IntKind.i64 (((BitVec.toNat ((BitVec.ofInt 64 n5) &&& (BitVec.ofInt 64 (255 : Int)))) : Nat) : Int)))) n6 b n7 n9 n10 n2 n11 s l1 fun n54 b15 n55 n56 n57 l14 =>
 (cond b15
 (k n55 (IntKind.wrap IntKind.i64 ((IntKind.wrap IntKind.i64 (j4 * (256 : Int))) + (IntKind.wrap IntKind.i64 (((BitVec.toNat ((BitVec.ofInt 64 n5) &&& (BitVec.ofInt 64 (255 : Int)))) : Nat) : Int)))) n54 n57 n6 l14)
 (k n55 n56 n2 n57 n6 l14))))))))))))))
theorem ea_e_impl_WalkTwo_2_WWWWWWWWw (N : Nat) (G_impl_yputWord_w : ∀ {R : Type} (b : Bool) (n : Int) (n1 : Int) (l : List Int) (k : (List Int) → Option R), Option R) (G_impl_WalkTwo_1_WWWw : ∀ {R : Type} (n : Int) (n1 : Int) (b : Bool) (n2 : Int) (n3 : Int) (n4 : Int) (n5 : Int) (n6 : Int) (s : ByteArray) (l : List Int) (k : Int → Bool → Int → Int → Int → (List Int) → Option R), Option R) (G_impl_yputs : ∀ {R : Type} (n : Int) (k : Int → Option R), Option R) (G_impl_ylets : ∀ {R : Type} (n : Int) (n1 : Int) (b : Bool) (k : Bool → Option R), Option R) (G_impl_WalkTwo_2_1_WWWWw : ∀ {R : Type} (n : Int) (n1 : Int) (n2 : Int) (n3 : Int) (n4 : Int) (s : ByteArray) (b : Bool) (n5 : Int) (l : List Int) (k : Int → Bool → Int → Int → Int → (List Int) → Option R), Option R) {R : Type} (n : Int) (n1 : Int) (n2 : Int) (n3 : Int) (s : ByteArray) (b : Bool) (n4 : Int) (n5 : Int) (n6 : Int) (b1 : Bool) (n7 : Int) (l : List Int) (K : AV → Hp E → Option R) :
    runFnI (E := E) (OA_impl_WalkTwo_2_WWWWWWWWw N G_impl_yputWord_w G_impl_WalkTwo_1_WWWw G_impl_yputs G_impl_ylets G_impl_WalkTwo_2_1_WWWWw) (noIt) sl_impl_WalkTwo_2_WWWWWWWWw J_impl_WalkTwo_2_WWWWWWWWw Try.f44 [(AV.sc (SV.ptr 0 0 0)), (AV.sc (SV.ptr 1 0 0)), (AV.sc (SV.ptr 2 0 0)), (AV.sc (SV.ptr 3 0 0)), (AV.sc (SV.ptr 4 0 0)), (AV.sc (SV.ptr 5 0 0)), (AV.sc (SV.ptr 6 0 0))] [(some (HE.mk false (HB.exp none [(SV.fn 43 [(2, (0, 0)), (7, (0, 0)), (1, (0, 0))])]))), (some (HE.mk false (HB.exp none [(SV.int IntKind.i64 n), (SV.int IntKind.i64 n1), (SV.int IntKind.i64 n2), (SV.int IntKind.i64 n3), (SV.str s)]))), (some (HE.mk false (HB.exp none [(SV.slc 8 none b)]))), (some (HE.mk false (HB.exp none [(SV.int IntKind.i64 n4)]))), (some (HE.mk false (HB.exp none [(SV.int IntKind.i64 n5)]))), (some (HE.mk false (HB.exp none [(SV.int IntKind.i64 n6)]))), (some (HE.mk false (HB.exp none [(SV.bool b1)]))), (some (HE.mk false (HB.exp none [(SV.int IntKind.i64 n7)]))), (some (HE.mk false (HB.rows (B.u8 l))))] K =
      ga_g_impl_WalkTwo_2_WWWWWWWWw N G_impl_yputWord_w G_impl_WalkTwo_1_WWWw G_impl_yputs G_impl_ylets G_impl_WalkTwo_2_1_WWWWw n n1 n2 n3 s b n4 n5 n6 b1 n7 l (fun n58 n59 n60 n61 n62 l15 => K (AV.tup []) [(some (HE.mk false (HB.exp none [(SV.fn 43 [(2, (0, 0)), (7, (0, 0)), (1, (0, 0))])]))), (some (HE.mk false (HB.exp none [(SV.int IntKind.i64 n58), (SV.int IntKind.i64 n59), (SV.int IntKind.i64 n60), (SV.int IntKind.i64 n61), (SV.str s)]))), (some (HE.mk false (HB.exp none [(SV.slc 8 none b)]))), (some (HE.mk false (HB.exp none [(SV.int IntKind.i64 n4)]))), (some (HE.mk false (HB.exp none [(SV.int IntKind.i64 n5)]))), (some (HE.mk false (HB.exp none [(SV.int IntKind.i64 n62)]))), (some (HE.mk false (HB.exp none [(SV.bool b1)]))), (some (HE.mk false (HB.exp none [(SV.int IntKind.i64 n7)]))), (some (HE.mk false (HB.rows (B.u8 l15))))]) := by kernel_rfl
theorem e_impl_WalkTwo_2_WWWWWWWWw (N : Nat) {R : Type} (n : Int) (n1 : Int) (n2 : Int) (n3 : Int) (s : ByteArray) (b : Bool) (n4 : Int) (n5 : Int) (n6 : Int) (b1 : Bool) (n7 : Int) (l : List Int) (K : AV → Hp E → Option R) :
    runFnI (E := E) (O_impl_WalkTwo_2_WWWWWWWWw N) (noIt) sl_impl_WalkTwo_2_WWWWWWWWw J_impl_WalkTwo_2_WWWWWWWWw Try.f44 [(AV.sc (SV.ptr 0 0 0)), (AV.sc (SV.ptr 1 0 0)), (AV.sc (SV.ptr 2 0 0)), (AV.sc (SV.ptr 3 0 0)), (AV.sc (SV.ptr 4 0 0)), (AV.sc (SV.ptr 5 0 0)), (AV.sc (SV.ptr 6 0 0))] [(some (HE.mk false (HB.exp none [(SV.fn 43 [(2, (0, 0)), (7, (0, 0)), (1, (0, 0))])]))), (some (HE.mk false (HB.exp none [(SV.int IntKind.i64 n), (SV.int IntKind.i64 n1), (SV.int IntKind.i64 n2), (SV.int IntKind.i64 n3), (SV.str s)]))), (some (HE.mk false (HB.exp none [(SV.slc 8 none b)]))), (some (HE.mk false (HB.exp none [(SV.int IntKind.i64 n4)]))), (some (HE.mk false (HB.exp none [(SV.int IntKind.i64 n5)]))), (some (HE.mk false (HB.exp none [(SV.int IntKind.i64 n6)]))), (some (HE.mk false (HB.exp none [(SV.bool b1)]))), (some (HE.mk false (HB.exp none [(SV.int IntKind.i64 n7)]))), (some (HE.mk false (HB.rows (B.u8 l))))] K =
      g_impl_WalkTwo_2_WWWWWWWWw N n n1 n2 n3 s b n4 n5 n6 b1 n7 l (fun n58 n59 n60 n61 n62 l15 => K (AV.tup []) [(some (HE.mk false (HB.exp none [(SV.fn 43 [(2, (0, 0)), (7, (0, 0)), (1, (0, 0))])]))), (some (HE.mk false (HB.exp none [(SV.int IntKind.i64 n58), (SV.int IntKind.i64 n59), (SV.int IntKind.i64 n60), (SV.int IntKind.i64 n61), (SV.str s)]))), (some (HE.mk false (HB.exp none [(SV.slc 8 none b)]))), (some (HE.mk false (HB.exp none [(SV.int IntKind.i64 n4)]))), (some (HE.mk false (HB.exp none [(SV.int IntKind.i64 n5)]))), (some (HE.mk false (HB.exp none [(SV.int IntKind.i64 n62)]))), (some (HE.mk false (HB.exp none [(SV.bool b1)]))), (some (HE.mk false (HB.exp none [(SV.int IntKind.i64 n7)]))), (some (HE.mk false (HB.rows (B.u8 l15))))]) := castPr (by kernel_rfl) (ea_e_impl_WalkTwo_2_WWWWWWWWw N (g_impl_yputWord_w N) (g_impl_WalkTwo_1_WWWw N) (g_impl_yputs N) (g_impl_ylets N) (g_impl_WalkTwo_2_1_WWWWw N) n n1 n2 n3 s b n4 n5 n6 b1 n7 l K)
noncomputable def o_impl_WalkTwo_2_WWWWWWWWw (N : Nat) {R : Type} (args : List AV) (H : Hp E) (K : AV → Hp E → Option R) : Option R :=
 match args, H with
 | [(AV.sc (SV.ptr 0 0 0)), (AV.sc (SV.ptr 1 0 0)), (AV.sc (SV.ptr 2 0 0)), (AV.sc (SV.ptr 3 0 0)), (AV.sc (SV.ptr 4 0 0)), (AV.sc (SV.ptr 5 0 0)), (AV.sc (SV.ptr 6 0 0))], [(some (HE.mk false (HB.exp none [(SV.fn 43 [(2, (0, 0)), (7, (0, 0)), (1, (0, 0))])]))), (some (HE.mk false (HB.exp none [(SV.int IntKind.i64 n), (SV.int IntKind.i64 n1), (SV.int IntKind.i64 n2), (SV.int IntKind.i64 n3), (SV.str s)]))), (some (HE.mk false (HB.exp none [(SV.slc 8 none b)]))), (some (HE.mk false (HB.exp none [(SV.int IntKind.i64 n4)]))), (some (HE.mk false (HB.exp none [(SV.int IntKind.i64 n5)]))), (some (HE.mk false (HB.exp none [(SV.int IntKind.i64 n6)]))), (some (HE.mk false (HB.exp none [(SV.bool b1)]))), (some (HE.mk false (HB.exp none [(SV.int IntKind.i64 n7)]))), (some (HE.mk false (HB.rows (B.u8 l))))] => g_impl_WalkTwo_2_WWWWWWWWw N n n1 n2 n3 s b n4 n5 n6 b1 n7 l (fun n58 n59 n60 n61 n62 l15 => K (AV.tup []) [(some (HE.mk false (HB.exp none [(SV.fn 43 [(2, (0, 0)), (7, (0, 0)), (1, (0, 0))])]))), (some (HE.mk false (HB.exp none [(SV.int IntKind.i64 n58), (SV.int IntKind.i64 n59), (SV.int IntKind.i64 n60), (SV.int IntKind.i64 n61), (SV.str s)]))), (some (HE.mk false (HB.exp none [(SV.slc 8 none b)]))), (some (HE.mk false (HB.exp none [(SV.int IntKind.i64 n4)]))), (some (HE.mk false (HB.exp none [(SV.int IntKind.i64 n5)]))), (some (HE.mk false (HB.exp none [(SV.int IntKind.i64 n62)]))), (some (HE.mk false (HB.exp none [(SV.bool b1)]))), (some (HE.mk false (HB.exp none [(SV.int IntKind.i64 n7)]))), (some (HE.mk false (HB.rows (B.u8 l15))))])
 | _, _ => none
theorem o_impl_WalkTwo_2_WWWWWWWWw_ok (N : Nat) : FnOk E 44 (o_impl_WalkTwo_2_WWWWWWWWw N) := by
  intro R args H K r h
  unfold o_impl_WalkTwo_2_WWWWWWWWw at h
  dsimp only at h
  split at h
  · exact fnB_ok (ids := []) (top := []) ok (O_impl_WalkTwo_2_WWWWWWWWw_ok N) (jn_ok _ _ _) Try.func44 (by kernel_rfl) (IT := noIt) (sl := sl_impl_WalkTwo_2_WWWWWWWWw) (J := J_impl_WalkTwo_2_WWWWWWWWw) (K := K) (H := [(some (HE.mk false (HB.exp none [(SV.fn 43 [(2, (0, 0)), (7, (0, 0)), (1, (0, 0))])]))), (some (HE.mk false (HB.exp none [(SV.int IntKind.i64 _), (SV.int IntKind.i64 _), (SV.int IntKind.i64 _), (SV.int IntKind.i64 _), (SV.str _)]))), (some (HE.mk false (HB.exp none [(SV.slc 8 none _)]))), (some (HE.mk false (HB.exp none [(SV.int IntKind.i64 _)]))), (some (HE.mk false (HB.exp none [(SV.int IntKind.i64 _)]))), (some (HE.mk false (HB.exp none [(SV.int IntKind.i64 _)]))), (some (HE.mk false (HB.exp none [(SV.bool _)]))), (some (HE.mk false (HB.exp none [(SV.int IntKind.i64 _)]))), (some (HE.mk false (HB.rows (B.u8 _))))]) (noIt_ok) (by kernel_rfl) rfl ((e_impl_WalkTwo_2_WWWWWWWWw N _ _ _ _ _ _ _ _ _ _ _ _ K).trans h)
  · cases h
/-! ### loop.example/g00038/impl.WalkTwo -/
abbrev sl_impl_WalkTwo : SlotT := []
abbrev J_impl_WalkTwo : JT := jn [(1, [(30, .b)])] [] []
noncomputable def O_impl_WalkTwo (N : Nat) : Orc E := addFn 44 (o_impl_WalkTwo_2_WWWWWWWWw N) (addFn 31 (o_impl_ywalkOk N) (addFn 42 (o_impl_yin N) (addFn 30 (o_impl_ymemOk N) (noFn))))
noncomputable def pa_impl_WalkTwo__o_impl_WalkTwo_2_WWWWWWWWw (N : Nat) (G_impl_WalkTwo_2_WWWWWWWWw : ∀ {R : Type} (n : Int) (n1 : Int) (n2 : Int) (n3 : Int) (s : ByteArray) (b : Bool) (n4 : Int) (n5 : Int) (n6 : Int) (b1 : Bool) (n7 : Int) (l : List Int) (k : Int → Int → Int → Int → Int → (List Int) → Option R), Option R) {R : Type} (args : List AV) (H : Hp E) (K : AV → Hp E → Option R) : Option R :=
 match args, H with
 | [(AV.sc (SV.ptr 0 0 0)), (AV.sc (SV.ptr 1 0 0)), (AV.sc (SV.ptr 2 0 0)), (AV.sc (SV.ptr 3 0 0)), (AV.sc (SV.ptr 4 0 0)), (AV.sc (SV.ptr 5 0 0)), (AV.sc (SV.ptr 6 0 0))], [(some (HE.mk false (HB.exp none [(SV.fn 43 [(2, (0, 0)), (7, (0, 0)), (1, (0, 0))])]))), (some (HE.mk false (HB.exp none [(SV.int IntKind.i64 n), (SV.int IntKind.i64 n1), (SV.int IntKind.i64 n2), (SV.int IntKind.i64 n3), (SV.str s)]))), (some (HE.mk false (HB.exp none [(SV.slc 8 none b)]))), (some (HE.mk false (HB.exp none [(SV.int IntKind.i64 n4)]))), (some (HE.mk false (HB.exp none [(SV.int IntKind.i64 n5)]))), (some (HE.mk false (HB.exp none [(SV.int IntKind.i64 n6)]))), (some (HE.mk false (HB.exp none [(SV.bool b1)]))), (some (HE.mk false (HB.exp none [(SV.int IntKind.i64 n7)]))), (some (HE.mk false (HB.rows (B.u8 l))))] => G_impl_WalkTwo_2_WWWWWWWWw n n1 n2 n3 s b n4 n5 n6 b1 n7 l (fun n58 n59 n60 n61 n62 l15 => K (AV.tup []) [(some (HE.mk false (HB.exp none [(SV.fn 43 [(2, (0, 0)), (7, (0, 0)), (1, (0, 0))])]))), (some (HE.mk false (HB.exp none [(SV.int IntKind.i64 n58), (SV.int IntKind.i64 n59), (SV.int IntKind.i64 n60), (SV.int IntKind.i64 n61), (SV.str s)]))), (some (HE.mk false (HB.exp none [(SV.slc 8 none b)]))), (some (HE.mk false (HB.exp none [(SV.int IntKind.i64 n4)]))), (some (HE.mk false (HB.exp none [(SV.int IntKind.i64 n5)]))), (some (HE.mk false (HB.exp none [(SV.int IntKind.i64 n62)]))), (some (HE.mk false (HB.exp none [(SV.bool b1)]))), (some (HE.mk false (HB.exp none [(SV.int IntKind.i64 n7)]))), (some (HE.mk false (HB.rows (B.u8 l15))))])
 | _, _ => none
noncomputable def pa_impl_WalkTwo__o_impl_ywalkOk (N : Nat) (G_impl_ywalkOk : ∀ {R : Type} (n : Int) (n1 : Int) (n2 : Int) (k : Bool → Option R), Option R) {R : Type} (args : List AV) (H : Hp E) (K : AV → Hp E → Option R) : Option R :=
 match args, H with
 | [(AV.sc (SV.int IntKind.i64 n)), (AV.sc (SV.int IntKind.i64 n1)), (AV.sc (SV.int IntKind.i64 n2))], [] => G_impl_ywalkOk n n1 n2 (fun b3 => K (AV.sc (SV.bool b3)) [])
 | _, _ => none
noncomputable def pa_impl_WalkTwo__o_impl_yin (N : Nat) (G_impl_yin : ∀ {R : Type} (n : Int) (n1 : Int) (n2 : Int) (k : Bool → Option R), Option R) {R : Type} (args : List AV) (H : Hp E) (K : AV → Hp E → Option R) : Option R :=
 match args, H with
 | [(AV.sc (SV.int IntKind.i64 n)), (AV.sc (SV.int IntKind.i64 n1)), (AV.sc (SV.int IntKind.i64 n2))], [] => G_impl_yin n n1 n2 (fun b => K (AV.sc (SV.bool b)) [])
 | _, _ => none
noncomputable def pa_impl_WalkTwo__o_impl_ymemOk (N : Nat) (G_impl_ymemOk : ∀ {R : Type} (s : ByteArray) (k : Bool → Option R), Option R) {R : Type} (args : List AV) (H : Hp E) (K : AV → Hp E → Option R) : Option R :=
 match args, H with
 | [(AV.sc (SV.str s))], [] => G_impl_ymemOk s (fun b => K (AV.sc (SV.bool b)) [])
 | _, _ => none
noncomputable def OA_impl_WalkTwo (N : Nat) (G_impl_WalkTwo_2_WWWWWWWWw : ∀ {R : Type} (n : Int) (n1 : Int) (n2 : Int) (n3 : Int) (s : ByteArray) (b : Bool) (n4 : Int) (n5 : Int) (n6 : Int) (b1 : Bool) (n7 : Int) (l : List Int) (k : Int → Int → Int → Int → Int → (List Int) → Option R), Option R) (G_impl_ywalkOk : ∀ {R : Type} (n : Int) (n1 : Int) (n2 : Int) (k : Bool → Option R), Option R) (G_impl_yin : ∀ {R : Type} (n : Int) (n1 : Int) (n2 : Int) (k : Bool → Option R), Option R) (G_impl_ymemOk : ∀ {R : Type} (s : ByteArray) (k : Bool → Option R), Option R) : Orc E := addFn 44 (pa_impl_WalkTwo__o_impl_WalkTwo_2_WWWWWWWWw N G_impl_WalkTwo_2_WWWWWWWWw) (addFn 31 (pa_impl_WalkTwo__o_impl_ywalkOk N G_impl_ywalkOk) (addFn 42 (pa_impl_WalkTwo__o_impl_yin N G_impl_yin) (addFn 30 (pa_impl_WalkTwo__o_impl_ymemOk N G_impl_ymemOk) (noFn))))
theorem O_impl_WalkTwo_ok (N : Nat) : OrcOk (O_impl_WalkTwo N) := addFn_ok (o_impl_WalkTwo_2_WWWWWWWWw_ok N) (addFn_ok (o_impl_ywalkOk_ok N) (addFn_ok (o_impl_yin_ok N) (addFn_ok (o_impl_ymemOk_ok N) (noFn_ok))))
noncomputable def g_impl_WalkTwo (N : Nat) {R : Type} (s : ByteArray) (n : Int) (n1 : Int) (n2 : Int) (n3 : Int) (b : Bool) (k : Int → Int → Int → Int → ByteArray → Option R) : Option R :=
 (oK (g_impl_ymemOk N s fun b1 =>
 (cond (!b1)
 (some true)
 (g_impl_yin N n (0 : Int) (255 : Int) fun b2 =>
 (cond (!b2)
 (some true)
 (g_impl_ywalkOk N n1 n2 n3 fun b3 =>
 (some (!b3))))))) fun j =>
 (cond j
 (k (0 : Int) (0 : Int) (0 : Int) (0 : Int) (ByteArray.mk (List.toArray [])))
 (g_impl_WalkTwo_2_WWWWWWWWw N (0 : Int) (0 : Int) (0 : Int) (0 : Int) (ByteArray.mk (List.toArray [])) false n1 n2 n3 b n (Go.Eng.ofBytes s) fun n4 n5 n6 n7 n8 l =>
 (cond (Nat.ble (0 + (List.length l)) (List.length l))
 (k n4 n5 n6 n7 (Go.Eng.toBytes (Go.Eng.seg l 0 (List.length l))))
 none))))
noncomputable def ga_g_impl_WalkTwo (N : Nat) (G_impl_WalkTwo_2_WWWWWWWWw : ∀ {R : Type} (n : Int) (n1 : Int) (n2 : Int) (n3 : Int) (s : ByteArray) (b : Bool) (n4 : Int) (n5 : Int) (n6 : Int) (b1 : Bool) (n7 : Int) (l : List Int) (k : Int → Int → Int → Int → Int → (List Int) → Option R), Option R) (G_impl_ywalkOk : ∀ {R : Type} (n : Int) (n1 : Int) (n2 : Int) (k : Bool → Option R), Option R) (G_impl_yin : ∀ {R : Type} (n : Int) (n1 : Int) (n2 : Int) (k : Bool → Option R), Option R) (G_impl_ymemOk : ∀ {R : Type} (s : ByteArray) (k : Bool → Option R), Option R) {R : Type} (s : ByteArray) (n : Int) (n1 : Int) (n2 : Int) (n3 : Int) (b : Bool) (k : Int → Int → Int → Int → ByteArray → Option R) : Option R :=
 (oK (G_impl_ymemOk s fun b1 =>
 (cond (!b1)
 (some true)
 (G_impl_yin n (0 : Int) (255 : Int) fun b2 =>
 (cond (!b2)
 (some true)
 (G_impl_ywalkOk n1 n2 n3 fun b3 =>
 (some (!b3))))))) fun j =>
 (cond j
 (k (0 : Int) (0 : Int) (0 : Int) (0 : Int) (ByteArray.mk (List.toArray [])))
 (G_impl_WalkTwo_2_WWWWWWWWw (0 : Int) (0 : Int) (0 : Int) (0 : Int) (ByteArray.mk (List.toArray [])) false n1 n2 n3 b n (Go.Eng.ofBytes s) fun n4 n5 n6 n7 n8 l =>
 (cond (Nat.ble (0 + (List.length l)) (List.length l))
 (k n4 n5 n6 n7 (Go.Eng.toBytes (Go.Eng.seg l 0 (List.length l))))
 none))))
theorem ea_e_impl_WalkTwo (N : Nat) (G_impl_WalkTwo_2_WWWWWWWWw : ∀ {R : Type} (n : Int) (n1 : Int) (n2 : Int) (n3 : Int) (s : ByteArray) (b : Bool) (n4 : Int) (n5 : Int) (n6 : Int) (b1 : Bool) (n7 : Int) (l : List Int) (k : Int → Int → Int → Int → Int → (List Int) → Option R), Option R) (G_impl_ywalkOk : ∀ {R : Type} (n : Int) (n1 : Int) (n2 : Int) (k : Bool → Option R), Option R) (G_impl_yin : ∀ {R : Type} (n : Int) (n1 : Int) (n2 : Int) (k : Bool → Option R), Option R) (G_impl_ymemOk : ∀ {R : Type} (s : ByteArray) (k : Bool → Option R), Option R) {R : Type} (s : ByteArray) (n : Int) (n1 : Int) (n2 : Int) (n3 : Int) (b : Bool) (K : AV → Hp E → Option R) :
    runFnI (E := E) (OA_impl_WalkTwo N G_impl_WalkTwo_2_WWWWWWWWw G_impl_ywalkOk G_impl_yin G_impl_ymemOk) (noIt) sl_impl_WalkTwo J_impl_WalkTwo Try.f12 [(AV.sc (SV.str s)), (AV.sc (SV.int IntKind.i64 n)), (AV.sc (SV.int IntKind.i64 n1)), (AV.sc (SV.int IntKind.i64 n2)), (AV.sc (SV.int IntKind.i64 n3)), (AV.sc (SV.bool b))] [] K =
      ga_g_impl_WalkTwo N G_impl_WalkTwo_2_WWWWWWWWw G_impl_ywalkOk G_impl_yin G_impl_ymemOk s n n1 n2 n3 b (fun n9 n10 n11 n12 s1 => K (AV.agg [(SV.int IntKind.i64 n9), (SV.int IntKind.i64 n10), (SV.int IntKind.i64 n11), (SV.int IntKind.i64 n12), (SV.str s1)]) []) := by kernel_rfl
theorem e_impl_WalkTwo (N : Nat) {R : Type} (s : ByteArray) (n : Int) (n1 : Int) (n2 : Int) (n3 : Int) (b : Bool) (K : AV → Hp E → Option R) :
    runFnI (E := E) (O_impl_WalkTwo N) (noIt) sl_impl_WalkTwo J_impl_WalkTwo Try.f12 [(AV.sc (SV.str s)), (AV.sc (SV.int IntKind.i64 n)), (AV.sc (SV.int IntKind.i64 n1)), (AV.sc (SV.int IntKind.i64 n2)), (AV.sc (SV.int IntKind.i64 n3)), (AV.sc (SV.bool b))] [] K =
      g_impl_WalkTwo N s n n1 n2 n3 b (fun n9 n10 n11 n12 s1 => K (AV.agg [(SV.int IntKind.i64 n9), (SV.int IntKind.i64 n10), (SV.int IntKind.i64 n11), (SV.int IntKind.i64 n12), (SV.str s1)]) []) := castPr (by kernel_rfl) (ea_e_impl_WalkTwo N (g_impl_WalkTwo_2_WWWWWWWWw N) (g_impl_ywalkOk N) (g_impl_yin N) (g_impl_ymemOk N) s n n1 n2 n3 b K)
noncomputable def o_impl_WalkTwo (N : Nat) {R : Type} (args : List AV) (H : Hp E) (K : AV → Hp E → Option R) : Option R :=
 match args, H with
 | [(AV.sc (SV.str s)), (AV.sc (SV.int IntKind.i64 n)), (AV.sc (SV.int IntKind.i64 n1)), (AV.sc (SV.int IntKind.i64 n2)), (AV.sc (SV.int IntKind.i64 n3)), (AV.sc (SV.bool b))], [] => g_impl_WalkTwo N s n n1 n2 n3 b (fun n9 n10 n11 n12 s1 => K (AV.agg [(SV.int IntKind.i64 n9), (SV.int IntKind.i64 n10), (SV.int IntKind.i64 n11), (SV.int IntKind.i64 n12), (SV.str s1)]) [])
 | _, _ => none
theorem o_impl_WalkTwo_ok (N : Nat) : FnOk E 12 (o_impl_WalkTwo N) := by
  intro R args H K r h
  unfold o_impl_WalkTwo at h
  dsimp only at h
  split at h
  · exact fnB_ok (ids := []) (top := []) ok (O_impl_WalkTwo_ok N) (jn_ok _ _ _) Try.func12 (by kernel_rfl) (IT := noIt) (sl := sl_impl_WalkTwo) (J := J_impl_WalkTwo) (K := K) (H := []) (noIt_ok) (by kernel_rfl) rfl ((e_impl_WalkTwo N _ _ _ _ _ _ K).trans h)
  · cases h
/-! ### (*loop.example/g00038/spec.l03Two).place -/
abbrev sl_spec_l03Two_place_W : SlotT := []
abbrev J_spec_l03Two_place_W : JT := jn [] [] []
noncomputable def O_spec_l03Two_place_W (N : Nat) : Orc E := addFn 9 (o_spec_Walk N) (noFn)
theorem O_spec_l03Two_place_W_ok (N : Nat) : OrcOk (O_spec_l03Two_place_W N) := addFn_ok (o_spec_Walk_ok N) (noFn_ok)
noncomputable def g_spec_l03Two_place_W (N : Nat) {R : Type} (n : Int) (n1 : Int) (s : ByteArray) (n2 : Int) (n3 : Int) (n4 : Int) (k : Int → ByteArray → Int → Int → Option R) : Option R :=
 (g_spec_Walk N s n2 n n1 false fun n5 n6 n7 b b1 s1 l =>
 (cond (n5 != (0 : Int))
 (k (-(1 : Int)) s (IntKind.wrap IntKind.i64 (n3 + (((List.length l) : Nat) : Int))) n)
 (k n6 s1 (IntKind.wrap IntKind.i64 (n3 + (((List.length l) : Nat) : Int))) n4)))
theorem e_spec_l03Two_place_W (N : Nat) {R : Type} (n : Int) (n1 : Int) (s : ByteArray) (n2 : Int) (n3 : Int) (n4 : Int) (K : AV → Hp E → Option R) :
    runFnI (E := E) (O_spec_l03Two_place_W N) (noIt) sl_spec_l03Two_place_W J_spec_l03Two_place_W Try.f49 [(AV.sc (SV.ptr 0 0 0)), (AV.sc (SV.int IntKind.i64 n)), (AV.sc (SV.int IntKind.i64 n1))] [(some (HE.mk false (HB.exp none [(SV.str s), (SV.int IntKind.i64 n2), (SV.int IntKind.i64 n3), (SV.int IntKind.i64 n4)])))] K =
      g_spec_l03Two_place_W N n n1 s n2 n3 n4 (fun n8 s2 n9 n10 => K (AV.sc (SV.int IntKind.i64 n8)) [(some (HE.mk false (HB.exp none [(SV.str s2), (SV.int IntKind.i64 n2), (SV.int IntKind.i64 n9), (SV.int IntKind.i64 n10)])))]) := by kernel_rfl
noncomputable def o_spec_l03Two_place_W (N : Nat) {R : Type} (args : List AV) (H : Hp E) (K : AV → Hp E → Option R) : Option R :=
 match args, H with
 | [(AV.sc (SV.ptr 0 0 0)), (AV.sc (SV.int IntKind.i64 n)), (AV.sc (SV.int IntKind.i64 n1))], [(some (HE.mk false (HB.exp none [(SV.str s), (SV.int IntKind.i64 n2), (SV.int IntKind.i64 n3), (SV.int IntKind.i64 n4)])))] => g_spec_l03Two_place_W N n n1 s n2 n3 n4 (fun n8 s2 n9 n10 => K (AV.sc (SV.int IntKind.i64 n8)) [(some (HE.mk false (HB.exp none [(SV.str s2), (SV.int IntKind.i64 n2), (SV.int IntKind.i64 n9), (SV.int IntKind.i64 n10)])))])
 | _, _ => none
theorem o_spec_l03Two_place_W_ok (N : Nat) : FnOk E 49 (o_spec_l03Two_place_W N) := by
  intro R args H K r h
  unfold o_spec_l03Two_place_W at h
  dsimp only at h
  split at h
  · exact fnB_ok (ids := []) (top := []) ok (O_spec_l03Two_place_W_ok N) (jn_ok _ _ _) Try.func49 (by kernel_rfl) (IT := noIt) (sl := sl_spec_l03Two_place_W) (J := J_spec_l03Two_place_W) (K := K) (H := [(some (HE.mk false (HB.exp none [(SV.str _), (SV.int IntKind.i64 _), (SV.int IntKind.i64 _), (SV.int IntKind.i64 _)])))]) (noIt_ok) (by kernel_rfl) rfl ((e_spec_l03Two_place_W N _ _ _ _ _ _ K).trans h)
  · cases h
/-! ### (*loop.example/g00038/spec.l03Two).answer -/
abbrev sl_spec_l03Two_answer_W : SlotT := []
abbrev J_spec_l03Two_answer_W : JT := jn [] [] []
noncomputable def O_spec_l03Two_answer_W (N : Nat) : Orc E := noFn
theorem O_spec_l03Two_answer_W_ok (N : Nat) : OrcOk (O_spec_l03Two_answer_W N) := noFn_ok
noncomputable def g_spec_l03Two_answer_W (N : Nat) {R : Type} (n : Int) (n1 : Int) (n2 : Int) (s : ByteArray) (n3 : Int) (n4 : Int) (n5 : Int) (k : Option R) : Option R :=
 k
theorem e_spec_l03Two_answer_W (N : Nat) {R : Type} (n : Int) (n1 : Int) (n2 : Int) (s : ByteArray) (n3 : Int) (n4 : Int) (n5 : Int) (K : AV → Hp E → Option R) :
    runFnI (E := E) (O_spec_l03Two_answer_W N) (noIt) sl_spec_l03Two_answer_W J_spec_l03Two_answer_W Try.f50 [(AV.sc (SV.ptr 0 0 0)), (AV.sc (SV.int IntKind.i64 n)), (AV.sc (SV.int IntKind.i64 n1)), (AV.sc (SV.int IntKind.i64 n2))] [(some (HE.mk false (HB.exp none [(SV.str s), (SV.int IntKind.i64 n3), (SV.int IntKind.i64 n4), (SV.int IntKind.i64 n5)])))] K =
      g_spec_l03Two_answer_W N n n1 n2 s n3 n4 n5 (K (AV.agg [(SV.int IntKind.i64 n), (SV.int IntKind.i64 n1), (SV.int IntKind.i64 n2), (SV.int IntKind.i64 n4), (SV.str s)]) [(some (HE.mk false (HB.exp none [(SV.str s), (SV.int IntKind.i64 n3), (SV.int IntKind.i64 n4), (SV.int IntKind.i64 n5)])))]) := by kernel_rfl
noncomputable def o_spec_l03Two_answer_W (N : Nat) {R : Type} (args : List AV) (H : Hp E) (K : AV → Hp E → Option R) : Option R :=
 match args, H with
 | [(AV.sc (SV.ptr 0 0 0)), (AV.sc (SV.int IntKind.i64 n)), (AV.sc (SV.int IntKind.i64 n1)), (AV.sc (SV.int IntKind.i64 n2))], [(some (HE.mk false (HB.exp none [(SV.str s), (SV.int IntKind.i64 n3), (SV.int IntKind.i64 n4), (SV.int IntKind.i64 n5)])))] => g_spec_l03Two_answer_W N n n1 n2 s n3 n4 n5 (K (AV.agg [(SV.int IntKind.i64 n), (SV.int IntKind.i64 n1), (SV.int IntKind.i64 n2), (SV.int IntKind.i64 n4), (SV.str s)]) [(some (HE.mk false (HB.exp none [(SV.str s), (SV.int IntKind.i64 n3), (SV.int IntKind.i64 n4), (SV.int IntKind.i64 n5)])))])
 | _, _ => none
theorem o_spec_l03Two_answer_W_ok (N : Nat) : FnOk E 50 (o_spec_l03Two_answer_W N) := by
  intro R args H K r h
  unfold o_spec_l03Two_answer_W at h
  dsimp only at h
  split at h
  · exact fnB_ok (ids := []) (top := []) ok (O_spec_l03Two_answer_W_ok N) (jn_ok _ _ _) Try.func50 (by kernel_rfl) (IT := noIt) (sl := sl_spec_l03Two_answer_W) (J := J_spec_l03Two_answer_W) (K := K) (H := [(some (HE.mk false (HB.exp none [(SV.str _), (SV.int IntKind.i64 _), (SV.int IntKind.i64 _), (SV.int IntKind.i64 _)])))]) (noIt_ok) (by kernel_rfl) rfl ((e_spec_l03Two_answer_W N _ _ _ _ _ _ _ K).trans h)
  · cases h
end Go.Sa
