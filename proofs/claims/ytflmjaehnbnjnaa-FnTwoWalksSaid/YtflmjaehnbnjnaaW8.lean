import Derived.Test.YtflmjaehnbnjnaaSpec
import Derived.Test.YtflmjaehnbnjnaaPLb
import Derived.Test.YtflmjaehnbnjnaaW7
set_option linter.all false
namespace Go.Sa
open Go Go.Eng Go.Proofs
set_option maxRecDepth 100000
set_option maxHeartbeats 4000000
/-! ### loop.example/g00038/spec.WalkTwo -/
abbrev sl_spec_WalkTwo : SlotT := []
abbrev J_spec_WalkTwo : JT := jn [(1, [(52, .b)]), (11, [(96, .b)]), (22, [(159, .b)])] [(162, [(18, .i .i64)]), (175, [(19, .i .i64)]), (208, [(4, .i .i64)])] []
noncomputable def O_spec_WalkTwo (N : Nat) : Orc E := addFn 38 (o_spec_SetWord N) (addFn 37 (o_spec_l03May N) (addFn 51 (o_spec_l01Word N) (addFn 50 (o_spec_l03Two_answer_W N) (addFn 49 (o_spec_l03Two_place_W N) (addFn 35 (o_spec_l03Acc N) (addFn 10 (o_spec_MemFault N) (noFn)))))))
noncomputable def pa_spec_WalkTwo__o_spec_SetWord (N : Nat) (G_spec_SetWord : ∀ {R : Type} (s : ByteArray) (n : Int) (n1 : Int) (k : ByteArray → Option R), Option R) {R : Type} (args : List AV) (H : Hp E) (K : AV → Hp E → Option R) : Option R :=
 match args, H with
 | [(AV.sc (SV.str s)), (AV.sc (SV.int IntKind.i64 n)), (AV.sc (SV.int IntKind.i64 n1))], [] => G_spec_SetWord s n n1 (fun s2 => K (AV.sc (SV.str s2)) [])
 | _, _ => none
noncomputable def pa_spec_WalkTwo__o_spec_l03May (N : Nat) (G_spec_l03May : ∀ {R : Type} (n : Int) (n1 : Int) (b : Bool) (k : Bool → Option R), Option R) {R : Type} (args : List AV) (H : Hp E) (K : AV → Hp E → Option R) : Option R :=
 match args, H with
 | [(AV.sc (SV.int IntKind.i64 n)), (AV.sc (SV.int IntKind.i64 n1)), (AV.sc (SV.bool b))], [] => G_spec_l03May n n1 b (fun b1 => K (AV.sc (SV.bool b1)) [])
 | _, _ => none
noncomputable def pa_spec_WalkTwo__o_spec_l01Word (N : Nat) (G_spec_l01Word : ∀ {R : Type} (s : ByteArray) (n : Int) (k : Int → Option R), Option R) {R : Type} (args : List AV) (H : Hp E) (K : AV → Hp E → Option R) : Option R :=
 match args, H with
 | [(AV.sc (SV.str s)), (AV.sc (SV.int IntKind.i64 n))], [] => G_spec_l01Word s n (fun n1 => K (AV.sc (SV.int IntKind.i64 n1)) [])
 | _, _ => none
noncomputable def pa_spec_WalkTwo__o_spec_l03Two_answer_W (N : Nat) (G_spec_l03Two_answer_W : ∀ {R : Type} (n : Int) (n1 : Int) (n2 : Int) (s : ByteArray) (n3 : Int) (n4 : Int) (n5 : Int) (k : Option R), Option R) {R : Type} (args : List AV) (H : Hp E) (K : AV → Hp E → Option R) : Option R :=
 match args, H with
 | [(AV.sc (SV.ptr 0 0 0)), (AV.sc (SV.int IntKind.i64 n)), (AV.sc (SV.int IntKind.i64 n1)), (AV.sc (SV.int IntKind.i64 n2))], [(some (HE.mk false (HB.exp none [(SV.str s), (SV.int IntKind.i64 n3), (SV.int IntKind.i64 n4), (SV.int IntKind.i64 n5)])))] => G_spec_l03Two_answer_W n n1 n2 s n3 n4 n5 (K (AV.agg [(SV.int IntKind.i64 n), (SV.int IntKind.i64 n1), (SV.int IntKind.i64 n2), (SV.int IntKind.i64 n4), (SV.str s)]) [(some (HE.mk false (HB.exp none [(SV.str s), (SV.int IntKind.i64 n3), (SV.int IntKind.i64 n4), (SV.int IntKind.i64 n5)])))])
 | _, _ => none
noncomputable def pa_spec_WalkTwo__o_spec_l03Two_place_W (N : Nat) (G_spec_l03Two_place_W : ∀ {R : Type} (n : Int) (n1 : Int) (s : ByteArray) (n2 : Int) (n3 : Int) (n4 : Int) (k : Int → ByteArray → Int → Int → Option R), Option R) {R : Type} (args : List AV) (H : Hp E) (K : AV → Hp E → Option R) : Option R :=
 match args, H with
 | [(AV.sc (SV.ptr 0 0 0)), (AV.sc (SV.int IntKind.i64 n)), (AV.sc (SV.int IntKind.i64 n1))], [(some (HE.mk false (HB.exp none [(SV.str s), (SV.int IntKind.i64 n2), (SV.int IntKind.i64 n3), (SV.int IntKind.i64 n4)])))] => G_spec_l03Two_place_W n n1 s n2 n3 n4 (fun n8 s2 n9 n10 => K (AV.sc (SV.int IntKind.i64 n8)) [(some (HE.mk false (HB.exp none [(SV.str s2), (SV.int IntKind.i64 n2), (SV.int IntKind.i64 n9), (SV.int IntKind.i64 n10)])))])
 | _, _ => none
noncomputable def pa_spec_WalkTwo__o_spec_l03Acc (N : Nat) (G_spec_l03Acc : ∀ {R : Type} (n : Int) (k : Bool → Option R), Option R) {R : Type} (args : List AV) (H : Hp E) (K : AV → Hp E → Option R) : Option R :=
 match args, H with
 | [(AV.sc (SV.int IntKind.i64 n))], [] => G_spec_l03Acc n (fun b => K (AV.sc (SV.bool b)) [])
 | _, _ => none
noncomputable def pa_spec_WalkTwo__o_spec_MemFault (N : Nat) (G_spec_MemFault : ∀ {R : Type} (s : ByteArray) (k : Int → Option R), Option R) {R : Type} (args : List AV) (H : Hp E) (K : AV → Hp E → Option R) : Option R :=
 match args, H with
 | [(AV.sc (SV.str s))], [] => G_spec_MemFault s (fun n => K (AV.sc (SV.int IntKind.i64 n)) [])
 | _, _ => none
noncomputable def OA_spec_WalkTwo (N : Nat) (G_spec_SetWord : ∀ {R : Type} (s : ByteArray) (n : Int) (n1 : Int) (k : ByteArray → Option R), Option R) (G_spec_l03May : ∀ {R : Type} (n : Int) (n1 : Int) (b : Bool) (k : Bool → Option R), Option R) (G_spec_l01Word : ∀ {R : Type} (s : ByteArray) (n : Int) (k : Int → Option R), Option R) (G_spec_l03Two_answer_W : ∀ {R : Type} (n : Int) (n1 : Int) (n2 : Int) (s : ByteArray) (n3 : Int) (n4 : Int) (n5 : Int) (k : Option R), Option R) (G_spec_l03Two_place_W : ∀ {R : Type} (n : Int) (n1 : Int) (s : ByteArray) (n2 : Int) (n3 : Int) (n4 : Int) (k : Int → ByteArray → Int → Int → Option R), Option R) (G_spec_l03Acc : ∀ {R : Type} (n : Int) (k : Bool → Option R), Option R) (G_spec_MemFault : ∀ {R : Type} (s : ByteArray) (k : Int → Option R), Option R) : Orc E := addFn 38 (pa_spec_WalkTwo__o_spec_SetWord N G_spec_SetWord) (addFn 37 (pa_spec_WalkTwo__o_spec_l03May N G_spec_l03May) (addFn 51 (pa_spec_WalkTwo__o_spec_l01Word N G_spec_l01Word) (addFn 50 (pa_spec_WalkTwo__o_spec_l03Two_answer_W N G_spec_l03Two_answer_W) (addFn 49 (pa_spec_WalkTwo__o_spec_l03Two_place_W N G_spec_l03Two_place_W) (addFn 35 (pa_spec_WalkTwo__o_spec_l03Acc N G_spec_l03Acc) (addFn 10 (pa_spec_WalkTwo__o_spec_MemFault N G_spec_MemFault) (noFn)))))))
theorem O_spec_WalkTwo_ok (N : Nat) : OrcOk (O_spec_WalkTwo N) := addFn_ok (o_spec_SetWord_ok N) (addFn_ok (o_spec_l03May_ok N) (addFn_ok (o_spec_l01Word_ok N) (addFn_ok (o_spec_l03Two_answer_W_ok N) (addFn_ok (o_spec_l03Two_place_W_ok N) (addFn_ok (o_spec_l03Acc_ok N) (addFn_ok (o_spec_MemFault_ok N) (noFn_ok)))))))
noncomputable def g_spec_WalkTwo (N : Nat) {R : Type} (s : ByteArray) (n : Int) (n1 : Int) (n2 : Int) (n3 : Int) (b : Bool) (k : Int → Int → Int → Int → ByteArray → Option R) : Option R :=
 (oK (g_spec_MemFault N s fun n4 =>
 (cond (n4 != (0 : Int))
 (some true)
 (cond (decide ((n < (0 : Int))))
 (some true)
 (cond (decide ((n > (255 : Int))))
 (some true)
 (cond (decide ((n1 < (0 : Int))))
 (some true)
 (cond (decide ((n1 > (255 : Int))))
 (some true)
 (cond (decide ((n2 < (0 : Int))))
 (some true)
 (cond (decide ((n2 ≥ (262144 : Int))))
 (some true)
 (g_spec_l03Acc N n3 fun b1 =>
 (some (!b1))))))))))) fun j =>
 (cond j
 (k (0 : Int) (0 : Int) (0 : Int) (0 : Int) (ByteArray.mk (List.toArray [])))
 (g_spec_l03Two_place_W N (IntKind.wrap IntKind.i64 ((IntKind.wrap IntKind.i64 (n1 * (256 : Int))) + (IntKind.wrap IntKind.i64 ((4 : Int) * (Int.fdiv n2 (8192 : Int)))))) (1 : Int) s n (0 : Int) (0 : Int) fun n5 s1 n6 n7 =>
 (cond (decide ((n5 < (0 : Int))))
 (g_spec_l03Two_answer_W N (3 : Int) n7 (0 : Int) s1 n n6 n7 
 (k (3 : Int) n7 (0 : Int) n6 s1))
 (g_spec_l01Word N s1 n5 fun n8 =>
 (oK (cond ((IntKind.wrap IntKind.i64 (((BitVec.toNat ((BitVec.ofInt 64 n8) &&& (BitVec.ofInt 64 (1 : Int)))) : Nat) : Int)) != (0 : Int))
 (some ((IntKind.wrap IntKind.i64 (((BitVec.toNat ((BitVec.ofInt 64 n8) &&& (BitVec.ofInt 64 (14 : Int)))) : Nat) : Int)) == (0 : Int)))
 (some false)) fun j1 =>
 (cond j1
 (cond (decide (((Int.fdiv n8 (256 : Int)) ≥ (1024 : Int))))
 (g_spec_l03Two_answer_W N (2 : Int) (0 : Int) (0 : Int) s1 n (IntKind.wrap IntKind.i64 (n6 + (1 : Int))) n7 
 (k (2 : Int) (0 : Int) (0 : Int) (IntKind.wrap IntKind.i64 (n6 + (1 : Int))) s1))
 (g_spec_l03Two_place_W N (IntKind.wrap IntKind.i64 ((IntKind.wrap IntKind.i64 ((Int.fdiv n8 (256 : Int)) * (256 : Int))) + (IntKind.wrap IntKind.i64 ((4 : Int) * (Int.tmod (Int.fdiv n2 (256 : Int)) (32 : Int)))))) (1 : Int) s1 n (IntKind.wrap IntKind.i64 (n6 + (1 : Int))) n7 fun n9 s2 n10 n11 =>
 (cond (decide ((n9 < (0 : Int))))
 (g_spec_l03Two_answer_W N (3 : Int) n11 (0 : Int) s2 n n10 n11 
 (k (3 : Int) n11 (0 : Int) n10 s2))
 (g_spec_l01Word N s2 n9 fun n12 =>
 (oK (cond ((IntKind.wrap IntKind.i64 (((BitVec.toNat ((BitVec.ofInt 64 n12) &&& (BitVec.ofInt 64 (1 : Int)))) : Nat) : Int)) == (0 : Int))
 (some true)
 (cond ((IntKind.wrap IntKind.i64 (((BitVec.toNat ((BitVec.ofInt 64 n12) &&& (BitVec.ofInt 64 (14 : Int)))) : Nat) : Int)) == (0 : Int))
 (some true)
 (g_spec_l03May N n12 n3 b fun b2 =>
 (some (!b2))))) fun j2 =>
 (cond j2
 (g_spec_l03Two_answer_W N (1 : Int) (0 : Int) (0 : Int) s2 n (IntKind.wrap IntKind.i64 (n10 + (1 : Int))) n11 
 (k (1 : Int) (0 : Int) (0 : Int) (IntKind.wrap IntKind.i64 (n10 + (1 : Int))) s2))
 (oK (some (Int.fdiv n12 (256 : Int))) fun j3 =>
 (cond (decide ((j3 ≥ (1024 : Int))))
 (g_spec_l03Two_answer_W N (2 : Int) (0 : Int) (0 : Int) s2 n (IntKind.wrap IntKind.i64 (n10 + (1 : Int))) n11 
 (k (2 : Int) (0 : Int) (0 : Int) (IntKind.wrap IntKind.i64 (n10 + (1 : Int))) s2))
 (oK (cond (n3 == (2 : Int))
 (some (IntKind.wrap IntKind.i64 (((BitVec.toNat ((BitVec.ofInt 64 (IntKind.wrap IntKind.i64 (((BitVec.toNat ((BitVec.ofInt 64 n12) ||| (BitVec.ofInt 64 (32 : Int)))) : Nat) : Int))) ||| (BitVec.ofInt 64 (64 : Int)))) : Nat) : Int)))
 (some (IntKind.wrap IntKind.i64 (((BitVec.toNat ((BitVec.ofInt 64 n12) ||| (BitVec.ofInt 64 (32 : Int)))) : Nat) : Int)))) fun j4 =>
 (cond (j4 != n12)
 (g_spec_l03Two_place_W N (IntKind.wrap IntKind.i64 ((IntKind.wrap IntKind.i64 ((Int.fdiv n8 (256 : Int)) * (256 : Int))) + (IntKind.wrap IntKind.i64 ((4 : Int) * (Int.tmod (Int.fdiv n2 (256 : Int)) (32 : Int)))))) (2 : Int) s2 n (IntKind.wrap IntKind.i64 (n10 + (1 : Int))) n11 fun n13 s3 n14 n15 =>
 (cond (decide ((n13 < (0 : Int))))
 (g_spec_l03Two_answer_W N (3 : Int) n15 (0 : Int) s3 n n14 n15 
 (k (3 : Int) n15 (0 : Int) n14 s3))
 (g_spec_SetWord N s3 n13 j4 fun s4 =>
 (oK (cond (n3 == (3 : Int))
 (some (1 : Int))
 (some n3)) fun j5 =>
 (g_spec_l03Two_place_W N (IntKind.wrap IntKind.i64 ((IntKind.wrap IntKind.i64 (j3 * (256 : Int))) + (Int.tmod n2 (256 : Int)))) j5 s4 n n14 n15 fun n16 s5 n17 n18 =>
 (cond (decide ((n16 < (0 : Int))))
 (g_spec_l03Two_answer_W N (3 : Int) n18 (0 : Int) s5 n n17 n18 
 (k (3 : Int) n18 (0 : Int) n17 s5))
 (g_spec_l03Two_answer_W N (0 : Int) (IntKind.wrap IntKind.i64 ((IntKind.wrap IntKind.i64 (j3 * (256 : Int))) + (Int.tmod n2 (256 : Int)))) n16 s5 n n17 n18 
 (k (0 : Int) (IntKind.wrap IntKind.i64 ((IntKind.wrap IntKind.i64 (j3 * (256 : Int))) + (Int.tmod n2 (256 : Int)))) n16 n17 s5))))))))
 (oK (cond (n3 == (3 : Int))
 (some (1 : Int))
 (some n3)) fun j6 =>
 (g_spec_l03Two_place_W N (IntKind.wrap IntKind.i64 ((IntKind.wrap IntKind.i64 (j3 * (256 : Int))) + (Int.tmod n2 (256 : Int)))) j6 s2 n (IntKind.wrap IntKind.i64 (n10 + (1 : Int))) n11 fun n19 s6 n20 n21 =>
 (cond (decide ((n19 < (0 : Int))))
 (g_spec_l03Two_answer_W N (3 : Int) n21 (0 : Int) s6 n n20 n21 
 (k (3 : Int) n21 (0 : Int) n20 s6))
 (g_spec_l03Two_answer_W N (0 : Int) (IntKind.wrap IntKind.i64 ((IntKind.wrap IntKind.i64 (j3 * (256 : Int))) + (Int.tmod n2 (256 : Int)))) n19 s6 n n20 n21 
 (k (0 : Int) (IntKind.wrap IntKind.i64 ((IntKind.wrap IntKind.i64 (j3 * (256 : Int))) + (Int.tmod n2 (256 : Int)))) n19 n20 s6)))))))))))))))
 (oK (cond ((IntKind.wrap IntKind.i64 (((BitVec.toNat ((BitVec.ofInt 64 n8) &&& (BitVec.ofInt 64 (1 : Int)))) : Nat) : Int)) == (0 : Int))
 (some true)
 (cond ((IntKind.wrap IntKind.i64 (((BitVec.toNat ((BitVec.ofInt 64 n8) &&& (BitVec.ofInt 64 (14 : Int)))) : Nat) : Int)) == (0 : Int))
 (some true)
 (cond ((Int.tmod (Int.fdiv n8 (256 : Int)) (32 : Int)) != (0 : Int))
 (some true)
 (g_spec_l03May N n8 n3 b fun b3 =>
 (some (!b3)))))) fun j7 =>
 (cond j7
 (g_spec_l03Two_answer_W N (1 : Int) (0 : Int) (0 : Int) s1 n (IntKind.wrap IntKind.i64 (n6 + (1 : Int))) n7 
 (k (1 : Int) (0 : Int) (0 : Int) (IntKind.wrap IntKind.i64 (n6 + (1 : Int))) s1))
 (oK (some (IntKind.wrap IntKind.i64 ((Int.fdiv n8 (256 : Int)) + (Int.tmod (Int.fdiv n2 (256 : Int)) (32 : Int))))) fun j8 =>
 (cond (decide ((j8 ≥ (1024 : Int))))
 (g_spec_l03Two_answer_W N (2 : Int) (0 : Int) (0 : Int) s1 n (IntKind.wrap IntKind.i64 (n6 + (1 : Int))) n7 
 (k (2 : Int) (0 : Int) (0 : Int) (IntKind.wrap IntKind.i64 (n6 + (1 : Int))) s1))
 (oK (cond (n3 == (2 : Int))
 (some (IntKind.wrap IntKind.i64 (((BitVec.toNat ((BitVec.ofInt 64 (IntKind.wrap IntKind.i64 (((BitVec.toNat ((BitVec.ofInt 64 n8) ||| (BitVec.ofInt 64 (32 : Int)))) : Nat) : Int))) ||| (BitVec.ofInt 64 (64 : Int)))) : Nat) : Int)))
 (some (IntKind.wrap IntKind.i64 (((BitVec.toNat ((BitVec.ofInt 64 n8) ||| (BitVec.ofInt 64 (32 : Int)))) : Nat) : Int)))) fun j9 =>
 (cond (j9 != n8)
 (g_spec_l03Two_place_W N (IntKind.wrap IntKind.i64 ((IntKind.wrap IntKind.i64 (n1 * (256 : Int))) + (IntKind.wrap IntKind.i64 ((4 : Int) * (Int.fdiv n2 (8192 : Int)))))) (2 : Int) s1 n (IntKind.wrap IntKind.i64 (n6 + (1 : Int))) n7 fun n22 s7 n23 n24 =>
 (cond (decide ((n22 < (0 : Int))))
 (g_spec_l03Two_answer_W N (3 : Int) n24 (0 : Int) s7 n n23 n24 
 (k (3 : Int) n24 (0 : Int) n23 s7))
 (g_spec_SetWord N s7 n22 j9 fun s8 =>
 (oK (cond (n3 == (3 : Int))
 (some (1 : Int))
 (some n3)) fun j10 =>
 (g_spec_l03Two_place_W N (IntKind.wrap IntKind.i64 ((IntKind.wrap IntKind.i64 (j8 * (256 : Int))) + (Int.tmod n2 (256 : Int)))) j10 s8 n n23 n24 fun n25 s9 n26 n27 =>
 (cond (decide ((n25 < (0 : Int))))
 (g_spec_l03Two_answer_W N (3 : Int) n27 (0 : Int) s9 n n26 n27 
 (k (3 : Int) n27 (0 : Int) n26 s9))
 (g_spec_l03Two_answer_W N (0 : Int) (IntKind.wrap IntKind.i64 ((IntKind.wrap IntKind.i64 (j8 * (256 : Int))) + (Int.tmod n2 (256 : Int)))) n25 s9 n n26 n27 
 (k (0 : Int) (IntKind.wrap IntKind.i64 ((IntKind.wrap IntKind.i64 (j8 * (256 : Int))) + (Int.tmod n2 (256 : Int)))) n25 n26 s9))))))))
 (oK (cond (n3 == (3 : Int))
 (some (1 : Int))
 (some n3)) fun j11 =>
 (g_spec_l03Two_place_W N (IntKind.wrap IntKind.i64 ((IntKind.wrap IntKind.i64 (j8 * (256 : Int))) + (Int.tmod n2 (256 : Int)))) j11 s1 n (IntKind.wrap IntKind.i64 (n6 + (1 : Int))) n7 fun n28 s10 n29 n30 =>
 (cond (decide ((n28 < (0 : Int))))
 (g_spec_l03Two_answer_W N (3 : Int) n30 (0 : Int) s10 n n29 n30 
 (k (3 : Int) n30 (0 : Int) n29 s10))
 (g_spec_l03Two_answer_W N (0 : Int) (IntKind.wrap IntKind.i64 ((IntKind.wrap IntKind.i64 (j8 * (256 : Int))) + (Int.tmod n2 (256 : Int)))) n28 s10 n n29 n30 
 (k (0 : Int) (IntKind.wrap IntKind.i64 ((IntKind.wrap IntKind.i64 (j8 * (256 : Int))) + (Int.tmod n2 (256 : Int)))) n28 n29 s10))))))))))))))))))
noncomputable def ga_g_spec_WalkTwo (N : Nat) (G_spec_SetWord : ∀ {R : Type} (s : ByteArray) (n : Int) (n1 : Int) (k : ByteArray → Option R), Option R) (G_spec_l03May : ∀ {R : Type} (n : Int) (n1 : Int) (b : Bool) (k : Bool → Option R), Option R) (G_spec_l01Word : ∀ {R : Type} (s : ByteArray) (n : Int) (k : Int → Option R), Option R) (G_spec_l03Two_answer_W : ∀ {R : Type} (n : Int) (n1 : Int) (n2 : Int) (s : ByteArray) (n3 : Int) (n4 : Int) (n5 : Int) (k : Option R), Option R) (G_spec_l03Two_place_W : ∀ {R : Type} (n : Int) (n1 : Int) (s : ByteArray) (n2 : Int) (n3 : Int) (n4 : Int) (k : Int → ByteArray → Int → Int → Option R), Option R) (G_spec_l03Acc : ∀ {R : Type} (n : Int) (k : Bool → Option R), Option R) (G_spec_MemFault : ∀ {R : Type} (s : ByteArray) (k : Int → Option R), Option R) {R : Type} (s : ByteArray) (n : Int) (n1 : Int) (n2 : Int) (n3 : Int) (b : Bool) (k : Int → Int → Int → Int → ByteArray → Option R) : Option R :=
 (oK (G_spec_MemFault s fun n4 =>
 (cond (n4 != (0 : Int))
 (some true)
 (cond (decide ((n < (0 : Int))))
 (some true)
 (cond (decide ((n > (255 : Int))))
 (some true)
 (cond (decide ((n1 < (0 : Int))))
 (some true)
 (cond (decide ((n1 > (255 : Int))))
 (some true)
 (cond (decide ((n2 < (0 : Int))))
 (some true)
 (cond (decide ((n2 ≥ (262144 : Int))))
 (some true)
 (G_spec_l03Acc n3 fun b1 =>
 (some (!b1))))))))))) fun j =>
 (cond j
 (k (0 : Int) (0 : Int) (0 : Int) (0 : Int) (ByteArray.mk (List.toArray [])))
 (G_spec_l03Two_place_W (IntKind.wrap IntKind.i64 ((IntKind.wrap IntKind.i64 (n1 * (256 : Int))) + (IntKind.wrap IntKind.i64 ((4 : Int) * (Int.fdiv n2 (8192 : Int)))))) (1 : Int) s n (0 : Int) (0 : Int) fun n5 s1 n6 n7 =>
 (cond (decide ((n5 < (0 : Int))))
 (G_spec_l03Two_answer_W (3 : Int) n7 (0 : Int) s1 n n6 n7 
 (k (3 : Int) n7 (0 : Int) n6 s1))
 (G_spec_l01Word s1 n5 fun n8 =>
 (oK (cond ((IntKind.wrap IntKind.i64 (((BitVec.toNat ((BitVec.ofInt 64 n8) &&& (BitVec.ofInt 64 (1 : Int)))) : Nat) : Int)) != (0 : Int))
 (some ((IntKind.wrap IntKind.i64 (((BitVec.toNat ((BitVec.ofInt 64 n8) &&& (BitVec.ofInt 64 (14 : Int)))) : Nat) : Int)) == (0 : Int)))
 (some false)) fun j1 =>
 (cond j1
 (cond (decide (((Int.fdiv n8 (256 : Int)) ≥ (1024 : Int))))
 (G_spec_l03Two_answer_W (2 : Int) (0 : Int) (0 : Int) s1 n (IntKind.wrap IntKind.i64 (n6 + (1 : Int))) n7 
 (k (2 : Int) (0 : Int) (0 : Int) (IntKind.wrap IntKind.i64 (n6 + (1 : Int))) s1))
 (G_spec_l03Two_place_W (IntKind.wrap IntKind.i64 ((IntKind.wrap IntKind.i64 ((Int.fdiv n8 (256 : Int)) * (256 : Int))) + (IntKind.wrap IntKind.i64 ((4 : Int) * (Int.tmod (Int.fdiv n2 (256 : Int)) (32 : Int)))))) (1 : Int) s1 n (IntKind.wrap IntKind.i64 (n6 + (1 : Int))) n7 fun n9 s2 n10 n11 =>
 (cond (decide ((n9 < (0 : Int))))
 (G_spec_l03Two_answer_W (3 : Int) n11 (0 : Int) s2 n n10 n11 
 (k (3 : Int) n11 (0 : Int) n10 s2))
 (G_spec_l01Word s2 n9 fun n12 =>
 (oK (cond ((IntKind.wrap IntKind.i64 (((BitVec.toNat ((BitVec.ofInt 64 n12) &&& (BitVec.ofInt 64 (1 : Int)))) : Nat) : Int)) == (0 : Int))
 (some true)
 (cond ((IntKind.wrap IntKind.i64 (((BitVec.toNat ((BitVec.ofInt 64 n12) &&& (BitVec.ofInt 64 (14 : Int)))) : Nat) : Int)) == (0 : Int))
 (some true)
 (G_spec_l03May n12 n3 b fun b2 =>
 (some (!b2))))) fun j2 =>
 (cond j2
 (G_spec_l03Two_answer_W (1 : Int) (0 : Int) (0 : Int) s2 n (IntKind.wrap IntKind.i64 (n10 + (1 : Int))) n11 
 (k (1 : Int) (0 : Int) (0 : Int) (IntKind.wrap IntKind.i64 (n10 + (1 : Int))) s2))
 (oK (some (Int.fdiv n12 (256 : Int))) fun j3 =>
 (cond (decide ((j3 ≥ (1024 : Int))))
 (G_spec_l03Two_answer_W (2 : Int) (0 : Int) (0 : Int) s2 n (IntKind.wrap IntKind.i64 (n10 + (1 : Int))) n11 
 (k (2 : Int) (0 : Int) (0 : Int) (IntKind.wrap IntKind.i64 (n10 + (1 : Int))) s2))
 (oK (cond (n3 == (2 : Int))
 (some (IntKind.wrap IntKind.i64 (((BitVec.toNat ((BitVec.ofInt 64 (IntKind.wrap IntKind.i64 (((BitVec.toNat ((BitVec.ofInt 64 n12) ||| (BitVec.ofInt 64 (32 : Int)))) : Nat) : Int))) ||| (BitVec.ofInt 64 (64 : Int)))) : Nat) : Int)))
 (some (IntKind.wrap IntKind.i64 (((BitVec.toNat ((BitVec.ofInt 64 n12) ||| (BitVec.ofInt 64 (32 : Int)))) : Nat) : Int)))) fun j4 =>
 (cond (j4 != n12)
 (G_spec_l03Two_place_W (IntKind.wrap IntKind.i64 ((IntKind.wrap IntKind.i64 ((Int.fdiv n8 (256 : Int)) * (256 : Int))) + (IntKind.wrap IntKind.i64 ((4 : Int) * (Int.tmod (Int.fdiv n2 (256 : Int)) (32 : Int)))))) (2 : Int) s2 n (IntKind.wrap IntKind.i64 (n10 + (1 : Int))) n11 fun n13 s3 n14 n15 =>
 (cond (decide ((n13 < (0 : Int))))
 (G_spec_l03Two_answer_W (3 : Int) n15 (0 : Int) s3 n n14 n15 
 (k (3 : Int) n15 (0 : Int) n14 s3))
 (G_spec_SetWord s3 n13 j4 fun s4 =>
 (oK (cond (n3 == (3 : Int))
 (some (1 : Int))
 (some n3)) fun j5 =>
 (G_spec_l03Two_place_W (IntKind.wrap IntKind.i64 ((IntKind.wrap IntKind.i64 (j3 * (256 : Int))) + (Int.tmod n2 (256 : Int)))) j5 s4 n n14 n15 fun n16 s5 n17 n18 =>
 (cond (decide ((n16 < (0 : Int))))
 (G_spec_l03Two_answer_W (3 : Int) n18 (0 : Int) s5 n n17 n18 
 (k (3 : Int) n18 (0 : Int) n17 s5))
 (G_spec_l03Two_answer_W (0 : Int) (IntKind.wrap IntKind.i64 ((IntKind.wrap IntKind.i64 (j3 * (256 : Int))) + (Int.tmod n2 (256 : Int)))) n16 s5 n n17 n18 
 (k (0 : Int) (IntKind.wrap IntKind.i64 ((IntKind.wrap IntKind.i64 (j3 * (256 : Int))) + (Int.tmod n2 (256 : Int)))) n16 n17 s5))))))))
 (oK (cond (n3 == (3 : Int))
 (some (1 : Int))
 (some n3)) fun j6 =>
 (G_spec_l03Two_place_W (IntKind.wrap IntKind.i64 ((IntKind.wrap IntKind.i64 (j3 * (256 : Int))) + (Int.tmod n2 (256 : Int)))) j6 s2 n (IntKind.wrap IntKind.i64 (n10 + (1 : Int))) n11 fun n19 s6 n20 n21 =>
 (cond (decide ((n19 < (0 : Int))))
 (G_spec_l03Two_answer_W (3 : Int) n21 (0 : Int) s6 n n20 n21 
 (k (3 : Int) n21 (0 : Int) n20 s6))
 (G_spec_l03Two_answer_W (0 : Int) (IntKind.wrap IntKind.i64 ((IntKind.wrap IntKind.i64 (j3 * (256 : Int))) + (Int.tmod n2 (256 : Int)))) n19 s6 n n20 n21 
 (k (0 : Int) (IntKind.wrap IntKind.i64 ((IntKind.wrap IntKind.i64 (j3 * (256 : Int))) + (Int.tmod n2 (256 : Int)))) n19 n20 s6)))))))))))))))
 (oK (cond ((IntKind.wrap IntKind.i64 (((BitVec.toNat ((BitVec.ofInt 64 n8) &&& (BitVec.ofInt 64 (1 : Int)))) : Nat) : Int)) == (0 : Int))
 (some true)
 (cond ((IntKind.wrap IntKind.i64 (((BitVec.toNat ((BitVec.ofInt 64 n8) &&& (BitVec.ofInt 64 (14 : Int)))) : Nat) : Int)) == (0 : Int))
 (some true)
 (cond ((Int.tmod (Int.fdiv n8 (256 : Int)) (32 : Int)) != (0 : Int))
 (some true)
 (G_spec_l03May n8 n3 b fun b3 =>
 (some (!b3)))))) fun j7 =>
 (cond j7
 (G_spec_l03Two_answer_W (1 : Int) (0 : Int) (0 : Int) s1 n (IntKind.wrap IntKind.i64 (n6 + (1 : Int))) n7 
 (k (1 : Int) (0 : Int) (0 : Int) (IntKind.wrap IntKind.i64 (n6 + (1 : Int))) s1))
 (oK (some (IntKind.wrap IntKind.i64 ((Int.fdiv n8 (256 : Int)) + (Int.tmod (Int.fdiv n2 (256 : Int)) (32 : Int))))) fun j8 =>
 (cond (decide ((j8 ≥ (1024 : Int))))
 (G_spec_l03Two_answer_W (2 : Int) (0 : Int) (0 : Int) s1 n (IntKind.wrap IntKind.i64 (n6 + (1 : Int))) n7 
 (k (2 : Int) (0 : Int) (0 : Int) (IntKind.wrap IntKind.i64 (n6 + (1 : Int))) s1))
 (oK (cond (n3 == (2 : Int))
 (some (IntKind.wrap IntKind.i64 (((BitVec.toNat ((BitVec.ofInt 64 (IntKind.wrap IntKind.i64 (((BitVec.toNat ((BitVec.ofInt 64 n8) ||| (BitVec.ofInt 64 (32 : Int)))) : Nat) : Int))) ||| (BitVec.ofInt 64 (64 : Int)))) : Nat) : Int)))
 (some (IntKind.wrap IntKind.i64 (((BitVec.toNat ((BitVec.ofInt 64 n8) ||| (BitVec.ofInt 64 (32 : Int)))) : Nat) : Int)))) fun j9 =>
 (cond (j9 != n8)
 (G_spec_l03Two_place_W (IntKind.wrap IntKind.i64 ((IntKind.wrap IntKind.i64 (n1 * (256 : Int))) + (IntKind.wrap IntKind.i64 ((4 : Int) * (Int.fdiv n2 (8192 : Int)))))) (2 : Int) s1 n (IntKind.wrap IntKind.i64 (n6 + (1 : Int))) n7 fun n22 s7 n23 n24 =>
 (cond (decide ((n22 < (0 : Int))))
 (G_spec_l03Two_answer_W (3 : Int) n24 (0 : Int) s7 n n23 n24 
 (k (3 : Int) n24 (0 : Int) n23 s7))
 (G_spec_SetWord s7 n22 j9 fun s8 =>
 (oK (cond (n3 == (3 : Int))
 (some (1 : Int))
 (some n3)) fun j10 =>
 (G_spec_l03Two_place_W (IntKind.wrap IntKind.i64 ((IntKind.wrap IntKind.i64 (j8 * (256 : Int))) + (Int.tmod n2 (256 : Int)))) j10 s8 n n23 n24 fun n25 s9 n26 n27 =>
 (cond (decide ((n25 < (0 : Int))))
 (G_spec_l03Two_answer_W (3 : Int) n27 (0 : Int) s9 n n26 n27 
 (k (3 : Int) n27 (0 : Int) n26 s9))
 (G_spec_l03Two_answer_W (0 : Int) (IntKind.wrap IntKind.i64 ((IntKind.wrap IntKind.i64 (j8 * (256 : Int))) + (Int.tmod n2 (256 : Int)))) n25 s9 n n26 n27 
 (k (0 : Int) (IntKind.wrap IntKind.i64 ((IntKind.wrap IntKind.i64 (j8 * (256 : Int))) + (Int.tmod n2 (256 : Int)))) n25 n26 s9))))))))
 (oK (cond (n3 == (3 : Int))
 (some (1 : Int))
 (some n3)) fun j11 =>
 (G_spec_l03Two_place_W (IntKind.wrap IntKind.i64 ((IntKind.wrap IntKind.i64 (j8 * (256 : Int))) + (Int.tmod n2 (256 : Int)))) j11 s1 n (IntKind.wrap IntKind.i64 (n6 + (1 : Int))) n7 fun n28 s10 n29 n30 =>
 (cond (decide ((n28 < (0 : Int))))
 (G_spec_l03Two_answer_W (3 : Int) n30 (0 : Int) s10 n n29 n30 
 (k (3 : Int) n30 (0 : Int) n29 s10))
 (G_spec_l03Two_answer_W (0 : Int) (IntKind.wrap IntKind.i64 ((IntKind.wrap IntKind.i64 (j8 * (256 : Int))) + (Int.tmod n2 (256 : Int)))) n28 s10 n n29 n30 
 (k (0 : Int) (IntKind.wrap IntKind.i64 ((IntKind.wrap IntKind.i64 (j8 * (256 : Int))) + (Int.tmod n2 (256 : Int)))) n28 n29 s10))))))))))))))))))
theorem ea_e_spec_WalkTwo (N : Nat) (G_spec_SetWord : ∀ {R : Type} (s : ByteArray) (n : Int) (n1 : Int) (k : ByteArray → Option R), Option R) (G_spec_l03May : ∀ {R : Type} (n : Int) (n1 : Int) (b : Bool) (k : Bool → Option R), Option R) (G_spec_l01Word : ∀ {R : Type} (s : ByteArray) (n : Int) (k : Int → Option R), Option R) (G_spec_l03Two_answer_W : ∀ {R : Type} (n : Int) (n1 : Int) (n2 : Int) (s : ByteArray) (n3 : Int) (n4 : Int) (n5 : Int) (k : Option R), Option R) (G_spec_l03Two_place_W : ∀ {R : Type} (n : Int) (n1 : Int) (s : ByteArray) (n2 : Int) (n3 : Int) (n4 : Int) (k : Int → ByteArray → Int → Int → Option R), Option R) (G_spec_l03Acc : ∀ {R : Type} (n : Int) (k : Bool → Option R), Option R) (G_spec_MemFault : ∀ {R : Type} (s : ByteArray) (k : Int → Option R), Option R) {R : Type} (s : ByteArray) (n : Int) (n1 : Int) (n2 : Int) (n3 : Int) (b : Bool) (K : AV → Hp E → Option R) :
    runFnI (E := E) (OA_spec_WalkTwo N G_spec_SetWord G_spec_l03May G_spec_l01Word G_spec_l03Two_answer_W G_spec_l03Two_place_W G_spec_l03Acc G_spec_MemFault) (noIt) sl_spec_WalkTwo J_spec_WalkTwo Try.f13 [(AV.sc (SV.str s)), (AV.sc (SV.int IntKind.i64 n)), (AV.sc (SV.int IntKind.i64 n1)), (AV.sc (SV.int IntKind.i64 n2)), (AV.sc (SV.int IntKind.i64 n3)), (AV.sc (SV.bool b))] [] K =
      ga_g_spec_WalkTwo N G_spec_SetWord G_spec_l03May G_spec_l01Word G_spec_l03Two_answer_W G_spec_l03Two_place_W G_spec_l03Acc G_spec_MemFault s n n1 n2 n3 b (fun n31 n32 n33 n34 s11 => K (AV.agg [(SV.int IntKind.i64 n31), (SV.int IntKind.i64 n32), (SV.int IntKind.i64 n33), (SV.int IntKind.i64 n34), (SV.str s11)]) []) := by kernel_rfl
theorem e_spec_WalkTwo (N : Nat) {R : Type} (s : ByteArray) (n : Int) (n1 : Int) (n2 : Int) (n3 : Int) (b : Bool) (K : AV → Hp E → Option R) :
    runFnI (E := E) (O_spec_WalkTwo N) (noIt) sl_spec_WalkTwo J_spec_WalkTwo Try.f13 [(AV.sc (SV.str s)), (AV.sc (SV.int IntKind.i64 n)), (AV.sc (SV.int IntKind.i64 n1)), (AV.sc (SV.int IntKind.i64 n2)), (AV.sc (SV.int IntKind.i64 n3)), (AV.sc (SV.bool b))] [] K =
      g_spec_WalkTwo N s n n1 n2 n3 b (fun n31 n32 n33 n34 s11 => K (AV.agg [(SV.int IntKind.i64 n31), (SV.int IntKind.i64 n32), (SV.int IntKind.i64 n33), (SV.int IntKind.i64 n34), (SV.str s11)]) []) := castPr (by kernel_rfl) (ea_e_spec_WalkTwo N (g_spec_SetWord N) (g_spec_l03May N) (g_spec_l01Word N) (g_spec_l03Two_answer_W N) (g_spec_l03Two_place_W N) (g_spec_l03Acc N) (g_spec_MemFault N) s n n1 n2 n3 b K)
noncomputable def o_spec_WalkTwo (N : Nat) {R : Type} (args : List AV) (H : Hp E) (K : AV → Hp E → Option R) : Option R :=
 match args, H with
 | [(AV.sc (SV.str s)), (AV.sc (SV.int IntKind.i64 n)), (AV.sc (SV.int IntKind.i64 n1)), (AV.sc (SV.int IntKind.i64 n2)), (AV.sc (SV.int IntKind.i64 n3)), (AV.sc (SV.bool b))], [] => g_spec_WalkTwo N s n n1 n2 n3 b (fun n31 n32 n33 n34 s11 => K (AV.agg [(SV.int IntKind.i64 n31), (SV.int IntKind.i64 n32), (SV.int IntKind.i64 n33), (SV.int IntKind.i64 n34), (SV.str s11)]) [])
 | _, _ => none
theorem o_spec_WalkTwo_ok (N : Nat) : FnOk E 13 (o_spec_WalkTwo N) := by
  intro R args H K r h
  unfold o_spec_WalkTwo at h
  dsimp only at h
  split at h
  · exact fnB_ok (ids := []) (top := []) ok (O_spec_WalkTwo_ok N) (jn_ok _ _ _) Try.func13 (by kernel_rfl) (IT := noIt) (sl := sl_spec_WalkTwo) (J := J_spec_WalkTwo) (K := K) (H := []) (noIt_ok) (by kernel_rfl) rfl ((e_spec_WalkTwo N _ _ _ _ _ _ K).trans h)
  · cases h
end Go.Sa
