import Derived.Test.YtnopbegjbbbdhaaSpec
import Derived.Test.YtnopbegjbbbdhaaPLb
import Derived.Test.YtnopbegjbbbdhaaW0
set_option linter.all false
namespace Go.Sa
open Go Go.Eng Go.Proofs
set_option maxRecDepth 100000
/-! ### loop.example/g00038/spec.WalkTwo -/
abbrev sl_spec_WalkTwo : SlotT := []
abbrev J_spec_WalkTwo : JT := jn [(1, [(52, .b)]), (11, [(96, .b)]), (22, [(159, .b)])] [(162, [(18, .i .i64)]), (175, [(19, .i .i64)]), (208, [(4, .i .i64)])] []
noncomputable def O_spec_WalkTwo (N : Nat) : Orc E := addFn 67 (o_spec_SetWord N) (addFn 66 (o_spec_l03May N) (addFn 79 (o_spec_l01Word N) (addFn 133 (o_spec_l03Two_answer_W N) (addFn 132 (o_spec_l03Two_place_W N) (addFn 64 (o_spec_l03Acc N) (addFn 58 (o_spec_MemFault N) (noFn)))))))
def pa_spec_WalkTwo__o_spec_SetWord (N : Nat) (G_spec_SetWord : ∀ {R : Type} (s : ByteArray) (n : Int) (n1 : Int) (k : ByteArray → Option R), Option R) (G_spec_l03May : ∀ {R : Type} (n : Int) (n1 : Int) (b : Bool) (k : Bool → Option R), Option R) (G_spec_l01Word : ∀ {R : Type} (s : ByteArray) (n : Int) (k : Int → Option R), Option R) (G_spec_l03Two_answer_W : ∀ {R : Type} (n : Int) (n1 : Int) (n2 : Int) (s : ByteArray) (n3 : Int) (n4 : Int) (n5 : Int) (k : Option R), Option R) (G_spec_l03Two_place_W : ∀ {R : Type} (n : Int) (n1 : Int) (s : ByteArray) (n2 : Int) (n3 : Int) (n4 : Int) (k : Int → ByteArray → Int → Int → Option R), Option R) (G_spec_l03Acc : ∀ {R : Type} (n : Int) (k : Bool → Option R), Option R) (G_spec_MemFault : ∀ {R : Type} (s : ByteArray) (k : Int → Option R), Option R) {R : Type} (args : List AV) (H : Hp E) (K : AV → Hp E → Option R) : Option R :=
  match args, H with
  | [(Go.Eng.AV.sc (Go.Eng.SV.str s)), (Go.Eng.AV.sc (Go.Eng.SV.int Go.IntKind.i64 n)), (Go.Eng.AV.sc (Go.Eng.SV.int Go.IntKind.i64 n1))], [] => G_spec_SetWord s n n1 (fun s2 => K (Go.Eng.AV.sc (Go.Eng.SV.str s2)) [])
  | _, _ => none
def pa_spec_WalkTwo__o_spec_l03May (N : Nat) (G_spec_SetWord : ∀ {R : Type} (s : ByteArray) (n : Int) (n1 : Int) (k : ByteArray → Option R), Option R) (G_spec_l03May : ∀ {R : Type} (n : Int) (n1 : Int) (b : Bool) (k : Bool → Option R), Option R) (G_spec_l01Word : ∀ {R : Type} (s : ByteArray) (n : Int) (k : Int → Option R), Option R) (G_spec_l03Two_answer_W : ∀ {R : Type} (n : Int) (n1 : Int) (n2 : Int) (s : ByteArray) (n3 : Int) (n4 : Int) (n5 : Int) (k : Option R), Option R) (G_spec_l03Two_place_W : ∀ {R : Type} (n : Int) (n1 : Int) (s : ByteArray) (n2 : Int) (n3 : Int) (n4 : Int) (k : Int → ByteArray → Int → Int → Option R), Option R) (G_spec_l03Acc : ∀ {R : Type} (n : Int) (k : Bool → Option R), Option R) (G_spec_MemFault : ∀ {R : Type} (s : ByteArray) (k : Int → Option R), Option R) {R : Type} (args : List AV) (H : Hp E) (K : AV → Hp E → Option R) : Option R :=
  match args, H with
  | [(Go.Eng.AV.sc (Go.Eng.SV.int Go.IntKind.i64 n)), (Go.Eng.AV.sc (Go.Eng.SV.int Go.IntKind.i64 n1)), (Go.Eng.AV.sc (Go.Eng.SV.bool b))], [] => G_spec_l03May n n1 b (fun b1 => K (Go.Eng.AV.sc (Go.Eng.SV.bool b1)) [])
  | _, _ => none
def pa_spec_WalkTwo__o_spec_l01Word (N : Nat) (G_spec_SetWord : ∀ {R : Type} (s : ByteArray) (n : Int) (n1 : Int) (k : ByteArray → Option R), Option R) (G_spec_l03May : ∀ {R : Type} (n : Int) (n1 : Int) (b : Bool) (k : Bool → Option R), Option R) (G_spec_l01Word : ∀ {R : Type} (s : ByteArray) (n : Int) (k : Int → Option R), Option R) (G_spec_l03Two_answer_W : ∀ {R : Type} (n : Int) (n1 : Int) (n2 : Int) (s : ByteArray) (n3 : Int) (n4 : Int) (n5 : Int) (k : Option R), Option R) (G_spec_l03Two_place_W : ∀ {R : Type} (n : Int) (n1 : Int) (s : ByteArray) (n2 : Int) (n3 : Int) (n4 : Int) (k : Int → ByteArray → Int → Int → Option R), Option R) (G_spec_l03Acc : ∀ {R : Type} (n : Int) (k : Bool → Option R), Option R) (G_spec_MemFault : ∀ {R : Type} (s : ByteArray) (k : Int → Option R), Option R) {R : Type} (args : List AV) (H : Hp E) (K : AV → Hp E → Option R) : Option R :=
  match args, H with
  | [(Go.Eng.AV.sc (Go.Eng.SV.str s)), (Go.Eng.AV.sc (Go.Eng.SV.int Go.IntKind.i64 n))], [] => G_spec_l01Word s n (fun n1 => K (Go.Eng.AV.sc (Go.Eng.SV.int Go.IntKind.i64 n1)) [])
  | _, _ => none
def pa_spec_WalkTwo__o_spec_l03Two_answer_W (N : Nat) (G_spec_SetWord : ∀ {R : Type} (s : ByteArray) (n : Int) (n1 : Int) (k : ByteArray → Option R), Option R) (G_spec_l03May : ∀ {R : Type} (n : Int) (n1 : Int) (b : Bool) (k : Bool → Option R), Option R) (G_spec_l01Word : ∀ {R : Type} (s : ByteArray) (n : Int) (k : Int → Option R), Option R) (G_spec_l03Two_answer_W : ∀ {R : Type} (n : Int) (n1 : Int) (n2 : Int) (s : ByteArray) (n3 : Int) (n4 : Int) (n5 : Int) (k : Option R), Option R) (G_spec_l03Two_place_W : ∀ {R : Type} (n : Int) (n1 : Int) (s : ByteArray) (n2 : Int) (n3 : Int) (n4 : Int) (k : Int → ByteArray → Int → Int → Option R), Option R) (G_spec_l03Acc : ∀ {R : Type} (n : Int) (k : Bool → Option R), Option R) (G_spec_MemFault : ∀ {R : Type} (s : ByteArray) (k : Int → Option R), Option R) {R : Type} (args : List AV) (H : Hp E) (K : AV → Hp E → Option R) : Option R :=
  match args, H with
  | [(Go.Eng.AV.sc (Go.Eng.SV.ptr 0 0 0)), (Go.Eng.AV.sc (Go.Eng.SV.int Go.IntKind.i64 n)), (Go.Eng.AV.sc (Go.Eng.SV.int Go.IntKind.i64 n1)), (Go.Eng.AV.sc (Go.Eng.SV.int Go.IntKind.i64 n2))], [(Option.some (Go.Eng.HE.mk Bool.false (Go.Eng.HB.exp Option.none [(Go.Eng.SV.str s), (Go.Eng.SV.int Go.IntKind.i64 n3), (Go.Eng.SV.int Go.IntKind.i64 n4), (Go.Eng.SV.int Go.IntKind.i64 n5)])))] => G_spec_l03Two_answer_W n n1 n2 s n3 n4 n5 (K (Go.Eng.AV.agg [(Go.Eng.SV.int Go.IntKind.i64 n), (Go.Eng.SV.int Go.IntKind.i64 n1), (Go.Eng.SV.int Go.IntKind.i64 n2), (Go.Eng.SV.int Go.IntKind.i64 n4), (Go.Eng.SV.str s)]) [(Option.some (Go.Eng.HE.mk Bool.false (Go.Eng.HB.exp Option.none [(Go.Eng.SV.str s), (Go.Eng.SV.int Go.IntKind.i64 n3), (Go.Eng.SV.int Go.IntKind.i64 n4), (Go.Eng.SV.int Go.IntKind.i64 n5)])))])
  | _, _ => none
def pa_spec_WalkTwo__o_spec_l03Two_place_W (N : Nat) (G_spec_SetWord : ∀ {R : Type} (s : ByteArray) (n : Int) (n1 : Int) (k : ByteArray → Option R), Option R) (G_spec_l03May : ∀ {R : Type} (n : Int) (n1 : Int) (b : Bool) (k : Bool → Option R), Option R) (G_spec_l01Word : ∀ {R : Type} (s : ByteArray) (n : Int) (k : Int → Option R), Option R) (G_spec_l03Two_answer_W : ∀ {R : Type} (n : Int) (n1 : Int) (n2 : Int) (s : ByteArray) (n3 : Int) (n4 : Int) (n5 : Int) (k : Option R), Option R) (G_spec_l03Two_place_W : ∀ {R : Type} (n : Int) (n1 : Int) (s : ByteArray) (n2 : Int) (n3 : Int) (n4 : Int) (k : Int → ByteArray → Int → Int → Option R), Option R) (G_spec_l03Acc : ∀ {R : Type} (n : Int) (k : Bool → Option R), Option R) (G_spec_MemFault : ∀ {R : Type} (s : ByteArray) (k : Int → Option R), Option R) {R : Type} (args : List AV) (H : Hp E) (K : AV → Hp E → Option R) : Option R :=
  match args, H with
  | [(Go.Eng.AV.sc (Go.Eng.SV.ptr 0 0 0)), (Go.Eng.AV.sc (Go.Eng.SV.int Go.IntKind.i64 n)), (Go.Eng.AV.sc (Go.Eng.SV.int Go.IntKind.i64 n1))], [(Option.some (Go.Eng.HE.mk Bool.false (Go.Eng.HB.exp Option.none [(Go.Eng.SV.str s), (Go.Eng.SV.int Go.IntKind.i64 n2), (Go.Eng.SV.int Go.IntKind.i64 n3), (Go.Eng.SV.int Go.IntKind.i64 n4)])))] => G_spec_l03Two_place_W n n1 s n2 n3 n4 (fun n8 s2 n9 n10 => K (Go.Eng.AV.sc (Go.Eng.SV.int Go.IntKind.i64 n8)) [(Option.some (Go.Eng.HE.mk Bool.false (Go.Eng.HB.exp Option.none [(Go.Eng.SV.str s2), (Go.Eng.SV.int Go.IntKind.i64 n2), (Go.Eng.SV.int Go.IntKind.i64 n9), (Go.Eng.SV.int Go.IntKind.i64 n10)])))])
  | _, _ => none
def pa_spec_WalkTwo__o_spec_l03Acc (N : Nat) (G_spec_SetWord : ∀ {R : Type} (s : ByteArray) (n : Int) (n1 : Int) (k : ByteArray → Option R), Option R) (G_spec_l03May : ∀ {R : Type} (n : Int) (n1 : Int) (b : Bool) (k : Bool → Option R), Option R) (G_spec_l01Word : ∀ {R : Type} (s : ByteArray) (n : Int) (k : Int → Option R), Option R) (G_spec_l03Two_answer_W : ∀ {R : Type} (n : Int) (n1 : Int) (n2 : Int) (s : ByteArray) (n3 : Int) (n4 : Int) (n5 : Int) (k : Option R), Option R) (G_spec_l03Two_place_W : ∀ {R : Type} (n : Int) (n1 : Int) (s : ByteArray) (n2 : Int) (n3 : Int) (n4 : Int) (k : Int → ByteArray → Int → Int → Option R), Option R) (G_spec_l03Acc : ∀ {R : Type} (n : Int) (k : Bool → Option R), Option R) (G_spec_MemFault : ∀ {R : Type} (s : ByteArray) (k : Int → Option R), Option R) {R : Type} (args : List AV) (H : Hp E) (K : AV → Hp E → Option R) : Option R :=
  match args, H with
  | [(Go.Eng.AV.sc (Go.Eng.SV.int Go.IntKind.i64 n))], [] => G_spec_l03Acc n (fun b => K (Go.Eng.AV.sc (Go.Eng.SV.bool b)) [])
  | _, _ => none
def pa_spec_WalkTwo__o_spec_MemFault (N : Nat) (G_spec_SetWord : ∀ {R : Type} (s : ByteArray) (n : Int) (n1 : Int) (k : ByteArray → Option R), Option R) (G_spec_l03May : ∀ {R : Type} (n : Int) (n1 : Int) (b : Bool) (k : Bool → Option R), Option R) (G_spec_l01Word : ∀ {R : Type} (s : ByteArray) (n : Int) (k : Int → Option R), Option R) (G_spec_l03Two_answer_W : ∀ {R : Type} (n : Int) (n1 : Int) (n2 : Int) (s : ByteArray) (n3 : Int) (n4 : Int) (n5 : Int) (k : Option R), Option R) (G_spec_l03Two_place_W : ∀ {R : Type} (n : Int) (n1 : Int) (s : ByteArray) (n2 : Int) (n3 : Int) (n4 : Int) (k : Int → ByteArray → Int → Int → Option R), Option R) (G_spec_l03Acc : ∀ {R : Type} (n : Int) (k : Bool → Option R), Option R) (G_spec_MemFault : ∀ {R : Type} (s : ByteArray) (k : Int → Option R), Option R) {R : Type} (args : List AV) (H : Hp E) (K : AV → Hp E → Option R) : Option R :=
  match args, H with
  | [(Go.Eng.AV.sc (Go.Eng.SV.str s))], [] => G_spec_MemFault s (fun n => K (Go.Eng.AV.sc (Go.Eng.SV.int Go.IntKind.i64 n)) [])
  | _, _ => none
noncomputable def OA_spec_WalkTwo (N : Nat) (G_spec_SetWord : ∀ {R : Type} (s : ByteArray) (n : Int) (n1 : Int) (k : ByteArray → Option R), Option R) (G_spec_l03May : ∀ {R : Type} (n : Int) (n1 : Int) (b : Bool) (k : Bool → Option R), Option R) (G_spec_l01Word : ∀ {R : Type} (s : ByteArray) (n : Int) (k : Int → Option R), Option R) (G_spec_l03Two_answer_W : ∀ {R : Type} (n : Int) (n1 : Int) (n2 : Int) (s : ByteArray) (n3 : Int) (n4 : Int) (n5 : Int) (k : Option R), Option R) (G_spec_l03Two_place_W : ∀ {R : Type} (n : Int) (n1 : Int) (s : ByteArray) (n2 : Int) (n3 : Int) (n4 : Int) (k : Int → ByteArray → Int → Int → Option R), Option R) (G_spec_l03Acc : ∀ {R : Type} (n : Int) (k : Bool → Option R), Option R) (G_spec_MemFault : ∀ {R : Type} (s : ByteArray) (k : Int → Option R), Option R) : Orc E := addFn 67 (pa_spec_WalkTwo__o_spec_SetWord N G_spec_SetWord G_spec_l03May G_spec_l01Word G_spec_l03Two_answer_W G_spec_l03Two_place_W G_spec_l03Acc G_spec_MemFault) (addFn 66 (pa_spec_WalkTwo__o_spec_l03May N G_spec_SetWord G_spec_l03May G_spec_l01Word G_spec_l03Two_answer_W G_spec_l03Two_place_W G_spec_l03Acc G_spec_MemFault) (addFn 79 (pa_spec_WalkTwo__o_spec_l01Word N G_spec_SetWord G_spec_l03May G_spec_l01Word G_spec_l03Two_answer_W G_spec_l03Two_place_W G_spec_l03Acc G_spec_MemFault) (addFn 133 (pa_spec_WalkTwo__o_spec_l03Two_answer_W N G_spec_SetWord G_spec_l03May G_spec_l01Word G_spec_l03Two_answer_W G_spec_l03Two_place_W G_spec_l03Acc G_spec_MemFault) (addFn 132 (pa_spec_WalkTwo__o_spec_l03Two_place_W N G_spec_SetWord G_spec_l03May G_spec_l01Word G_spec_l03Two_answer_W G_spec_l03Two_place_W G_spec_l03Acc G_spec_MemFault) (addFn 64 (pa_spec_WalkTwo__o_spec_l03Acc N G_spec_SetWord G_spec_l03May G_spec_l01Word G_spec_l03Two_answer_W G_spec_l03Two_place_W G_spec_l03Acc G_spec_MemFault) (addFn 58 (pa_spec_WalkTwo__o_spec_MemFault N G_spec_SetWord G_spec_l03May G_spec_l01Word G_spec_l03Two_answer_W G_spec_l03Two_place_W G_spec_l03Acc G_spec_MemFault) (noFn)))))))
theorem O_spec_WalkTwo_ok (N : Nat) : OrcOk (O_spec_WalkTwo N) := addFn_ok (o_spec_SetWord_ok N) (addFn_ok (o_spec_l03May_ok N) (addFn_ok (o_spec_l01Word_ok N) (addFn_ok (o_spec_l03Two_answer_W_ok N) (addFn_ok (o_spec_l03Two_place_W_ok N) (addFn_ok (o_spec_l03Acc_ok N) (addFn_ok (o_spec_MemFault_ok N) (noFn_ok)))))))
def g_spec_WalkTwo (N : Nat) {R : Type} (s : ByteArray) (n : Int) (n1 : Int) (n2 : Int) (n3 : Int) (b : Bool) (k : Int → Int → Int → Int → ByteArray → Option R) : Option R :=
  (oK (g_spec_MemFault N s fun n4 =>
    (cond (n4 != (0 : Int))
    (some Bool.true)
    (cond (decide ((n < (0 : Int))))
      (some Bool.true)
      (cond (decide ((n > (255 : Int))))
        (some Bool.true)
        (cond (decide ((n1 < (0 : Int))))
          (some Bool.true)
          (cond (decide ((n1 > (255 : Int))))
            (some Bool.true)
            (cond (decide ((n2 < (0 : Int))))
              (some Bool.true)
              (cond (decide ((n2 ≥ (262144 : Int))))
                (some Bool.true)
                (g_spec_l03Acc N n3 fun b1 =>
                  (some (!b1))))))))))) fun j =>
  (cond j
  (k (0 : Int) (0 : Int) (0 : Int) (0 : Int) (ByteArray.mk (List.toArray [])))
  (g_spec_l03Two_place_W N (Go.IntKind.wrap Go.IntKind.i64 ((Go.IntKind.wrap Go.IntKind.i64 (n1 * (256 : Int))) + (Go.IntKind.wrap Go.IntKind.i64 ((4 : Int) * (Int.fdiv n2 (8192 : Int)))))) (1 : Int) s n (0 : Int) (0 : Int) fun n5 s1 n6 n7 =>
    (cond (decide ((n5 < (0 : Int))))
    (g_spec_l03Two_answer_W N (3 : Int) n7 (0 : Int) s1 n n6 n7 
      (k (3 : Int) n7 (0 : Int) n6 s1))
    (g_spec_l01Word N s1 n5 fun n8 =>
      (oK (cond ((Go.IntKind.wrap Go.IntKind.i64 (((BitVec.toNat ((BitVec.ofInt 64 n8) &&& (BitVec.ofInt 64 (1 : Int)))) : Nat) : Int)) != (0 : Int))
        (some ((Go.IntKind.wrap Go.IntKind.i64 (((BitVec.toNat ((BitVec.ofInt 64 n8) &&& (BitVec.ofInt 64 (14 : Int)))) : Nat) : Int)) == (0 : Int)))
        (some Bool.false)) fun j1 =>
      (cond j1
      (cond (decide (((Int.fdiv n8 (256 : Int)) ≥ (1024 : Int))))
        (g_spec_l03Two_answer_W N (2 : Int) (0 : Int) (0 : Int) s1 n (Go.IntKind.wrap Go.IntKind.i64 (n6 + (1 : Int))) n7 
          (k (2 : Int) (0 : Int) (0 : Int) (Go.IntKind.wrap Go.IntKind.i64 (n6 + (1 : Int))) s1))
        (g_spec_l03Two_place_W N (Go.IntKind.wrap Go.IntKind.i64 ((Go.IntKind.wrap Go.IntKind.i64 ((Int.fdiv n8 (256 : Int)) * (256 : Int))) + (Go.IntKind.wrap Go.IntKind.i64 ((4 : Int) * (Int.tmod (Int.fdiv n2 (256 : Int)) (32 : Int)))))) (1 : Int) s1 n (Go.IntKind.wrap Go.IntKind.i64 (n6 + (1 : Int))) n7 fun n9 s2 n10 n11 =>
          (cond (decide ((n9 < (0 : Int))))
          (g_spec_l03Two_answer_W N (3 : Int) n11 (0 : Int) s2 n n10 n11 
            (k (3 : Int) n11 (0 : Int) n10 s2))
          (g_spec_l01Word N s2 n9 fun n12 =>
            (oK (cond ((Go.IntKind.wrap Go.IntKind.i64 (((BitVec.toNat ((BitVec.ofInt 64 n12) &&& (BitVec.ofInt 64 (1 : Int)))) : Nat) : Int)) == (0 : Int))
              (some Bool.true)
              (cond ((Go.IntKind.wrap Go.IntKind.i64 (((BitVec.toNat ((BitVec.ofInt 64 n12) &&& (BitVec.ofInt 64 (14 : Int)))) : Nat) : Int)) == (0 : Int))
                (some Bool.true)
                (g_spec_l03May N n12 n3 b fun b2 =>
                  (some (!b2))))) fun j2 =>
            (cond j2
            (g_spec_l03Two_answer_W N (1 : Int) (0 : Int) (0 : Int) s2 n (Go.IntKind.wrap Go.IntKind.i64 (n10 + (1 : Int))) n11 
              (k (1 : Int) (0 : Int) (0 : Int) (Go.IntKind.wrap Go.IntKind.i64 (n10 + (1 : Int))) s2))
            (oK (some (Int.fdiv n12 (256 : Int))) fun j3 =>
              (cond (decide ((j3 ≥ (1024 : Int))))
              (g_spec_l03Two_answer_W N (2 : Int) (0 : Int) (0 : Int) s2 n (Go.IntKind.wrap Go.IntKind.i64 (n10 + (1 : Int))) n11 
                (k (2 : Int) (0 : Int) (0 : Int) (Go.IntKind.wrap Go.IntKind.i64 (n10 + (1 : Int))) s2))
              (oK (cond (n3 == (2 : Int))
                  (some (Go.IntKind.wrap Go.IntKind.i64 (((BitVec.toNat ((BitVec.ofInt 64 (Go.IntKind.wrap Go.IntKind.i64 (((BitVec.toNat ((BitVec.ofInt 64 n12) ||| (BitVec.ofInt 64 (32 : Int)))) : Nat) : Int))) ||| (BitVec.ofInt 64 (64 : Int)))) : Nat) : Int)))
                  (some (Go.IntKind.wrap Go.IntKind.i64 (((BitVec.toNat ((BitVec.ofInt 64 n12) ||| (BitVec.ofInt 64 (32 : Int)))) : Nat) : Int)))) fun j4 =>
                (cond (j4 != n12)
                (g_spec_l03Two_place_W N (Go.IntKind.wrap Go.IntKind.i64 ((Go.IntKind.wrap Go.IntKind.i64 ((Int.fdiv n8 (256 : Int)) * (256 : Int))) + (Go.IntKind.wrap Go.IntKind.i64 ((4 : Int) * (Int.tmod (Int.fdiv n2 (256 : Int)) (32 : Int)))))) (2 : Int) s2 n (Go.IntKind.wrap Go.IntKind.i64 (n10 + (1 : Int))) n11 fun n13 s3 n14 n15 =>
                  (cond (decide ((n13 < (0 : Int))))
                  (g_spec_l03Two_answer_W N (3 : Int) n15 (0 : Int) s3 n n14 n15 
                    (k (3 : Int) n15 (0 : Int) n14 s3))
                  (g_spec_SetWord N s3 n13 j4 fun s4 =>
                    (oK (cond (n3 == (3 : Int))
                      (some (1 : Int))
                      (some n3)) fun j5 =>
                    (g_spec_l03Two_place_W N (Go.IntKind.wrap Go.IntKind.i64 ((Go.IntKind.wrap Go.IntKind.i64 (j3 * (256 : Int))) + (Int.tmod n2 (256 : Int)))) j5 s4 n n14 n15 fun n16 s5 n17 n18 =>
                    (cond (decide ((n16 < (0 : Int))))
                    (g_spec_l03Two_answer_W N (3 : Int) n18 (0 : Int) s5 n n17 n18 
                      (k (3 : Int) n18 (0 : Int) n17 s5))
                    (g_spec_l03Two_answer_W N (0 : Int) (Go.IntKind.wrap Go.IntKind.i64 ((Go.IntKind.wrap Go.IntKind.i64 (j3 * (256 : Int))) + (Int.tmod n2 (256 : Int)))) n16 s5 n n17 n18 
                      (k (0 : Int) (Go.IntKind.wrap Go.IntKind.i64 ((Go.IntKind.wrap Go.IntKind.i64 (j3 * (256 : Int))) + (Int.tmod n2 (256 : Int)))) n16 n17 s5))))))))
                (oK (cond (n3 == (3 : Int))
                    (some (1 : Int))
                    (some n3)) fun j6 =>
                  (g_spec_l03Two_place_W N (Go.IntKind.wrap Go.IntKind.i64 ((Go.IntKind.wrap Go.IntKind.i64 (j3 * (256 : Int))) + (Int.tmod n2 (256 : Int)))) j6 s2 n (Go.IntKind.wrap Go.IntKind.i64 (n10 + (1 : Int))) n11 fun n19 s6 n20 n21 =>
                  (cond (decide ((n19 < (0 : Int))))
                  (g_spec_l03Two_answer_W N (3 : Int) n21 (0 : Int) s6 n n20 n21 
                    (k (3 : Int) n21 (0 : Int) n20 s6))
                  (g_spec_l03Two_answer_W N (0 : Int) (Go.IntKind.wrap Go.IntKind.i64 ((Go.IntKind.wrap Go.IntKind.i64 (j3 * (256 : Int))) + (Int.tmod n2 (256 : Int)))) n19 s6 n n20 n21 
                    (k (0 : Int) (Go.IntKind.wrap Go.IntKind.i64 ((Go.IntKind.wrap Go.IntKind.i64 (j3 * (256 : Int))) + (Int.tmod n2 (256 : Int)))) n19 n20 s6)))))))))))))))
      (oK (cond ((Go.IntKind.wrap Go.IntKind.i64 (((BitVec.toNat ((BitVec.ofInt 64 n8) &&& (BitVec.ofInt 64 (1 : Int)))) : Nat) : Int)) == (0 : Int))
          (some Bool.true)
          (cond ((Go.IntKind.wrap Go.IntKind.i64 (((BitVec.toNat ((BitVec.ofInt 64 n8) &&& (BitVec.ofInt 64 (14 : Int)))) : Nat) : Int)) == (0 : Int))
            (some Bool.true)
            (cond ((Int.tmod (Int.fdiv n8 (256 : Int)) (32 : Int)) != (0 : Int))
              (some Bool.true)
              (g_spec_l03May N n8 n3 b fun b3 =>
                (some (!b3)))))) fun j7 =>
        (cond j7
        (g_spec_l03Two_answer_W N (1 : Int) (0 : Int) (0 : Int) s1 n (Go.IntKind.wrap Go.IntKind.i64 (n6 + (1 : Int))) n7 
          (k (1 : Int) (0 : Int) (0 : Int) (Go.IntKind.wrap Go.IntKind.i64 (n6 + (1 : Int))) s1))
        (oK (some (Go.IntKind.wrap Go.IntKind.i64 ((Int.fdiv n8 (256 : Int)) + (Int.tmod (Int.fdiv n2 (256 : Int)) (32 : Int))))) fun j8 =>
          (cond (decide ((j8 ≥ (1024 : Int))))
          (g_spec_l03Two_answer_W N (2 : Int) (0 : Int) (0 : Int) s1 n (Go.IntKind.wrap Go.IntKind.i64 (n6 + (1 : Int))) n7 
            (k (2 : Int) (0 : Int) (0 : Int) (Go.IntKind.wrap Go.IntKind.i64 (n6 + (1 : Int))) s1))
          (oK (cond (n3 == (2 : Int))
              (some (Go.IntKind.wrap Go.IntKind.i64 (((BitVec.toNat ((BitVec.ofInt 64 (Go.IntKind.wrap Go.IntKind.i64 (((BitVec.toNat ((BitVec.ofInt 64 n8) ||| (BitVec.ofInt 64 (32 : Int)))) : Nat) : Int))) ||| (BitVec.ofInt 64 (64 : Int)))) : Nat) : Int)))
              (some (Go.IntKind.wrap Go.IntKind.i64 (((BitVec.toNat ((BitVec.ofInt 64 n8) ||| (BitVec.ofInt 64 (32 : Int)))) : Nat) : Int)))) fun j9 =>
            (cond (j9 != n8)
            (g_spec_l03Two_place_W N (Go.IntKind.wrap Go.IntKind.i64 ((Go.IntKind.wrap Go.IntKind.i64 (n1 * (256 : Int))) + (Go.IntKind.wrap Go.IntKind.i64 ((4 : Int) * (Int.fdiv n2 (8192 : Int)))))) (2 : Int) s1 n (Go.IntKind.wrap Go.IntKind.i64 (n6 + (1 : Int))) n7 fun n22 s7 n23 n24 =>
              (cond (decide ((n22 < (0 : Int))))
              (g_spec_l03Two_answer_W N (3 : Int) n24 (0 : Int) s7 n n23 n24 
                (k (3 : Int) n24 (0 : Int) n23 s7))
              (g_spec_SetWord N s7 n22 j9 fun s8 =>
                (oK (cond (n3 == (3 : Int))
                  (some (1 : Int))
                  (some n3)) fun j10 =>
                (g_spec_l03Two_place_W N (Go.IntKind.wrap Go.IntKind.i64 ((Go.IntKind.wrap Go.IntKind.i64 (j8 * (256 : Int))) + (Int.tmod n2 (256 : Int)))) j10 s8 n n23 n24 fun n25 s9 n26 n27 =>
                (cond (decide ((n25 < (0 : Int))))
                (g_spec_l03Two_answer_W N (3 : Int) n27 (0 : Int) s9 n n26 n27 
                  (k (3 : Int) n27 (0 : Int) n26 s9))
                (g_spec_l03Two_answer_W N (0 : Int) (Go.IntKind.wrap Go.IntKind.i64 ((Go.IntKind.wrap Go.IntKind.i64 (j8 * (256 : Int))) + (Int.tmod n2 (256 : Int)))) n25 s9 n n26 n27 
                  (k (0 : Int) (Go.IntKind.wrap Go.IntKind.i64 ((Go.IntKind.wrap Go.IntKind.i64 (j8 * (256 : Int))) + (Int.tmod n2 (256 : Int)))) n25 n26 s9))))))))
            (oK (cond (n3 == (3 : Int))
                (some (1 : Int))
                (some n3)) fun j11 =>
              (g_spec_l03Two_place_W N (Go.IntKind.wrap Go.IntKind.i64 ((Go.IntKind.wrap Go.IntKind.i64 (j8 * (256 : Int))) + (Int.tmod n2 (256 : Int)))) j11 s1 n (Go.IntKind.wrap Go.IntKind.i64 (n6 + (1 : Int))) n7 fun n28 s10 n29 n30 =>
              (cond (decide ((n28 < (0 : Int))))
              (g_spec_l03Two_answer_W N (3 : Int) n30 (0 : Int) s10 n n29 n30 
                (k (3 : Int) n30 (0 : Int) n29 s10))
              (g_spec_l03Two_answer_W N (0 : Int) (Go.IntKind.wrap Go.IntKind.i64 ((Go.IntKind.wrap Go.IntKind.i64 (j8 * (256 : Int))) + (Int.tmod n2 (256 : Int)))) n28 s10 n n29 n30 
                (k (0 : Int) (Go.IntKind.wrap Go.IntKind.i64 ((Go.IntKind.wrap Go.IntKind.i64 (j8 * (256 : Int))) + (Int.tmod n2 (256 : Int)))) n28 n29 s10))))))))))))))))))
def ga_g_spec_WalkTwo (N : Nat) (G_spec_SetWord : ∀ {R : Type} (s : ByteArray) (n : Int) (n1 : Int) (k : ByteArray → Option R), Option R) (G_spec_l03May : ∀ {R : Type} (n : Int) (n1 : Int) (b : Bool) (k : Bool → Option R), Option R) (G_spec_l01Word : ∀ {R : Type} (s : ByteArray) (n : Int) (k : Int → Option R), Option R) (G_spec_l03Two_answer_W : ∀ {R : Type} (n : Int) (n1 : Int) (n2 : Int) (s : ByteArray) (n3 : Int) (n4 : Int) (n5 : Int) (k : Option R), Option R) (G_spec_l03Two_place_W : ∀ {R : Type} (n : Int) (n1 : Int) (s : ByteArray) (n2 : Int) (n3 : Int) (n4 : Int) (k : Int → ByteArray → Int → Int → Option R), Option R) (G_spec_l03Acc : ∀ {R : Type} (n : Int) (k : Bool → Option R), Option R) (G_spec_MemFault : ∀ {R : Type} (s : ByteArray) (k : Int → Option R), Option R) {R : Type} (s : ByteArray) (n : Int) (n1 : Int) (n2 : Int) (n3 : Int) (b : Bool) (k : Int → Int → Int → Int → ByteArray → Option R) : Option R :=
  (oK (G_spec_MemFault s fun n4 =>
    (cond (n4 != (0 : Int))
    (some Bool.true)
    (cond (decide ((n < (0 : Int))))
      (some Bool.true)
      (cond (decide ((n > (255 : Int))))
        (some Bool.true)
        (cond (decide ((n1 < (0 : Int))))
          (some Bool.true)
          (cond (decide ((n1 > (255 : Int))))
            (some Bool.true)
            (cond (decide ((n2 < (0 : Int))))
              (some Bool.true)
              (cond (decide ((n2 ≥ (262144 : Int))))
                (some Bool.true)
                (G_spec_l03Acc n3 fun b1 =>
                  (some (!b1))))))))))) fun j =>
  (cond j
  (k (0 : Int) (0 : Int) (0 : Int) (0 : Int) (ByteArray.mk (List.toArray [])))
  (G_spec_l03Two_place_W (Go.IntKind.wrap Go.IntKind.i64 ((Go.IntKind.wrap Go.IntKind.i64 (n1 * (256 : Int))) + (Go.IntKind.wrap Go.IntKind.i64 ((4 : Int) * (Int.fdiv n2 (8192 : Int)))))) (1 : Int) s n (0 : Int) (0 : Int) fun n5 s1 n6 n7 =>
    (cond (decide ((n5 < (0 : Int))))
    (G_spec_l03Two_answer_W (3 : Int) n7 (0 : Int) s1 n n6 n7 
      (k (3 : Int) n7 (0 : Int) n6 s1))
    (G_spec_l01Word s1 n5 fun n8 =>
      (oK (cond ((Go.IntKind.wrap Go.IntKind.i64 (((BitVec.toNat ((BitVec.ofInt 64 n8) &&& (BitVec.ofInt 64 (1 : Int)))) : Nat) : Int)) != (0 : Int))
        (some ((Go.IntKind.wrap Go.IntKind.i64 (((BitVec.toNat ((BitVec.ofInt 64 n8) &&& (BitVec.ofInt 64 (14 : Int)))) : Nat) : Int)) == (0 : Int)))
        (some Bool.false)) fun j1 =>
      (cond j1
      (cond (decide (((Int.fdiv n8 (256 : Int)) ≥ (1024 : Int))))
        (G_spec_l03Two_answer_W (2 : Int) (0 : Int) (0 : Int) s1 n (Go.IntKind.wrap Go.IntKind.i64 (n6 + (1 : Int))) n7 
          (k (2 : Int) (0 : Int) (0 : Int) (Go.IntKind.wrap Go.IntKind.i64 (n6 + (1 : Int))) s1))
        (G_spec_l03Two_place_W (Go.IntKind.wrap Go.IntKind.i64 ((Go.IntKind.wrap Go.IntKind.i64 ((Int.fdiv n8 (256 : Int)) * (256 : Int))) + (Go.IntKind.wrap Go.IntKind.i64 ((4 : Int) * (Int.tmod (Int.fdiv n2 (256 : Int)) (32 : Int)))))) (1 : Int) s1 n (Go.IntKind.wrap Go.IntKind.i64 (n6 + (1 : Int))) n7 fun n9 s2 n10 n11 =>
          (cond (decide ((n9 < (0 : Int))))
          (G_spec_l03Two_answer_W (3 : Int) n11 (0 : Int) s2 n n10 n11 
            (k (3 : Int) n11 (0 : Int) n10 s2))
          (G_spec_l01Word s2 n9 fun n12 =>
            (oK (cond ((Go.IntKind.wrap Go.IntKind.i64 (((BitVec.toNat ((BitVec.ofInt 64 n12) &&& (BitVec.ofInt 64 (1 : Int)))) : Nat) : Int)) == (0 : Int))
              (some Bool.true)
              (cond ((Go.IntKind.wrap Go.IntKind.i64 (((BitVec.toNat ((BitVec.ofInt 64 n12) &&& (BitVec.ofInt 64 (14 : Int)))) : Nat) : Int)) == (0 : Int))
                (some Bool.true)
                (G_spec_l03May n12 n3 b fun b2 =>
                  (some (!b2))))) fun j2 =>
            (cond j2
            (G_spec_l03Two_answer_W (1 : Int) (0 : Int) (0 : Int) s2 n (Go.IntKind.wrap Go.IntKind.i64 (n10 + (1 : Int))) n11 
              (k (1 : Int) (0 : Int) (0 : Int) (Go.IntKind.wrap Go.IntKind.i64 (n10 + (1 : Int))) s2))
            (oK (some (Int.fdiv n12 (256 : Int))) fun j3 =>
              (cond (decide ((j3 ≥ (1024 : Int))))
              (G_spec_l03Two_answer_W (2 : Int) (0 : Int) (0 : Int) s2 n (Go.IntKind.wrap Go.IntKind.i64 (n10 + (1 : Int))) n11 
                (k (2 : Int) (0 : Int) (0 : Int) (Go.IntKind.wrap Go.IntKind.i64 (n10 + (1 : Int))) s2))
              (oK (cond (n3 == (2 : Int))
                  (some (Go.IntKind.wrap Go.IntKind.i64 (((BitVec.toNat ((BitVec.ofInt 64 (Go.IntKind.wrap Go.IntKind.i64 (((BitVec.toNat ((BitVec.ofInt 64 n12) ||| (BitVec.ofInt 64 (32 : Int)))) : Nat) : Int))) ||| (BitVec.ofInt 64 (64 : Int)))) : Nat) : Int)))
                  (some (Go.IntKind.wrap Go.IntKind.i64 (((BitVec.toNat ((BitVec.ofInt 64 n12) ||| (BitVec.ofInt 64 (32 : Int)))) : Nat) : Int)))) fun j4 =>
                (cond (j4 != n12)
                (G_spec_l03Two_place_W (Go.IntKind.wrap Go.IntKind.i64 ((Go.IntKind.wrap Go.IntKind.i64 ((Int.fdiv n8 (256 : Int)) * (256 : Int))) + (Go.IntKind.wrap Go.IntKind.i64 ((4 : Int) * (Int.tmod (Int.fdiv n2 (256 : Int)) (32 : Int)))))) (2 : Int) s2 n (Go.IntKind.wrap Go.IntKind.i64 (n10 + (1 : Int))) n11 fun n13 s3 n14 n15 =>
                  (cond (decide ((n13 < (0 : Int))))
                  (G_spec_l03Two_answer_W (3 : Int) n15 (0 : Int) s3 n n14 n15 
                    (k (3 : Int) n15 (0 : Int) n14 s3))
                  (G_spec_SetWord s3 n13 j4 fun s4 =>
                    (oK (cond (n3 == (3 : Int))
                      (some (1 : Int))
                      (some n3)) fun j5 =>
                    (G_spec_l03Two_place_W (Go.IntKind.wrap Go.IntKind.i64 ((Go.IntKind.wrap Go.IntKind.i64 (j3 * (256 : Int))) + (Int.tmod n2 (256 : Int)))) j5 s4 n n14 n15 fun n16 s5 n17 n18 =>
                    (cond (decide ((n16 < (0 : Int))))
                    (G_spec_l03Two_answer_W (3 : Int) n18 (0 : Int) s5 n n17 n18 
                      (k (3 : Int) n18 (0 : Int) n17 s5))
                    (G_spec_l03Two_answer_W (0 : Int) (Go.IntKind.wrap Go.IntKind.i64 ((Go.IntKind.wrap Go.IntKind.i64 (j3 * (256 : Int))) + (Int.tmod n2 (256 : Int)))) n16 s5 n n17 n18 
                      (k (0 : Int) (Go.IntKind.wrap Go.IntKind.i64 ((Go.IntKind.wrap Go.IntKind.i64 (j3 * (256 : Int))) + (Int.tmod n2 (256 : Int)))) n16 n17 s5))))))))
                (oK (cond (n3 == (3 : Int))
                    (some (1 : Int))
                    (some n3)) fun j6 =>
                  (G_spec_l03Two_place_W (Go.IntKind.wrap Go.IntKind.i64 ((Go.IntKind.wrap Go.IntKind.i64 (j3 * (256 : Int))) + (Int.tmod n2 (256 : Int)))) j6 s2 n (Go.IntKind.wrap Go.IntKind.i64 (n10 + (1 : Int))) n11 fun n19 s6 n20 n21 =>
                  (cond (decide ((n19 < (0 : Int))))
                  (G_spec_l03Two_answer_W (3 : Int) n21 (0 : Int) s6 n n20 n21 
                    (k (3 : Int) n21 (0 : Int) n20 s6))
                  (G_spec_l03Two_answer_W (0 : Int) (Go.IntKind.wrap Go.IntKind.i64 ((Go.IntKind.wrap Go.IntKind.i64 (j3 * (256 : Int))) + (Int.tmod n2 (256 : Int)))) n19 s6 n n20 n21 
                    (k (0 : Int) (Go.IntKind.wrap Go.IntKind.i64 ((Go.IntKind.wrap Go.IntKind.i64 (j3 * (256 : Int))) + (Int.tmod n2 (256 : Int)))) n19 n20 s6)))))))))))))))
      (oK (cond ((Go.IntKind.wrap Go.IntKind.i64 (((BitVec.toNat ((BitVec.ofInt 64 n8) &&& (BitVec.ofInt 64 (1 : Int)))) : Nat) : Int)) == (0 : Int))
          (some Bool.true)
          (cond ((Go.IntKind.wrap Go.IntKind.i64 (((BitVec.toNat ((BitVec.ofInt 64 n8) &&& (BitVec.ofInt 64 (14 : Int)))) : Nat) : Int)) == (0 : Int))
            (some Bool.true)
            (cond ((Int.tmod (Int.fdiv n8 (256 : Int)) (32 : Int)) != (0 : Int))
              (some Bool.true)
              (G_spec_l03May n8 n3 b fun b3 =>
                (some (!b3)))))) fun j7 =>
        (cond j7
        (G_spec_l03Two_answer_W (1 : Int) (0 : Int) (0 : Int) s1 n (Go.IntKind.wrap Go.IntKind.i64 (n6 + (1 : Int))) n7 
          (k (1 : Int) (0 : Int) (0 : Int) (Go.IntKind.wrap Go.IntKind.i64 (n6 + (1 : Int))) s1))
        (oK (some (Go.IntKind.wrap Go.IntKind.i64 ((Int.fdiv n8 (256 : Int)) + (Int.tmod (Int.fdiv n2 (256 : Int)) (32 : Int))))) fun j8 =>
          (cond (decide ((j8 ≥ (1024 : Int))))
          (G_spec_l03Two_answer_W (2 : Int) (0 : Int) (0 : Int) s1 n (Go.IntKind.wrap Go.IntKind.i64 (n6 + (1 : Int))) n7 
            (k (2 : Int) (0 : Int) (0 : Int) (Go.IntKind.wrap Go.IntKind.i64 (n6 + (1 : Int))) s1))
          (oK (cond (n3 == (2 : Int))
              (some (Go.IntKind.wrap Go.IntKind.i64 (((BitVec.toNat ((BitVec.ofInt 64 (Go.IntKind.wrap Go.IntKind.i64 (((BitVec.toNat ((BitVec.ofInt 64 n8) ||| (BitVec.ofInt 64 (32 : Int)))) : Nat) : Int))) ||| (BitVec.ofInt 64 (64 : Int)))) : Nat) : Int)))
              (some (Go.IntKind.wrap Go.IntKind.i64 (((BitVec.toNat ((BitVec.ofInt 64 n8) ||| (BitVec.ofInt 64 (32 : Int)))) : Nat) : Int)))) fun j9 =>
            (cond (j9 != n8)
            (G_spec_l03Two_place_W (Go.IntKind.wrap Go.IntKind.i64 ((Go.IntKind.wrap Go.IntKind.i64 (n1 * (256 : Int))) + (Go.IntKind.wrap Go.IntKind.i64 ((4 : Int) * (Int.fdiv n2 (8192 : Int)))))) (2 : Int) s1 n (Go.IntKind.wrap Go.IntKind.i64 (n6 + (1 : Int))) n7 fun n22 s7 n23 n24 =>
              (cond (decide ((n22 < (0 : Int))))
              (G_spec_l03Two_answer_W (3 : Int) n24 (0 : Int) s7 n n23 n24 
                (k (3 : Int) n24 (0 : Int) n23 s7))
              (G_spec_SetWord s7 n22 j9 fun s8 =>
                (oK (cond (n3 == (3 : Int))
                  (some (1 : Int))
                  (some n3)) fun j10 =>
                (G_spec_l03Two_place_W (Go.IntKind.wrap Go.IntKind.i64 ((Go.IntKind.wrap Go.IntKind.i64 (j8 * (256 : Int))) + (Int.tmod n2 (256 : Int)))) j10 s8 n n23 n24 fun n25 s9 n26 n27 =>
                (cond (decide ((n25 < (0 : Int))))
                (G_spec_l03Two_answer_W (3 : Int) n27 (0 : Int) s9 n n26 n27 
                  (k (3 : Int) n27 (0 : Int) n26 s9))
                (G_spec_l03Two_answer_W (0 : Int) (Go.IntKind.wrap Go.IntKind.i64 ((Go.IntKind.wrap Go.IntKind.i64 (j8 * (256 : Int))) + (Int.tmod n2 (256 : Int)))) n25 s9 n n26 n27 
                  (k (0 : Int) (Go.IntKind.wrap Go.IntKind.i64 ((Go.IntKind.wrap Go.IntKind.i64 (j8 * (256 : Int))) + (Int.tmod n2 (256 : Int)))) n25 n26 s9))))))))
            (oK (cond (n3 == (3 : Int))
                (some (1 : Int))
                (some n3)) fun j11 =>
              (G_spec_l03Two_place_W (Go.IntKind.wrap Go.IntKind.i64 ((Go.IntKind.wrap Go.IntKind.i64 (j8 * (256 : Int))) + (Int.tmod n2 (256 : Int)))) j11 s1 n (Go.IntKind.wrap Go.IntKind.i64 (n6 + (1 : Int))) n7 fun n28 s10 n29 n30 =>
              (cond (decide ((n28 < (0 : Int))))
              (G_spec_l03Two_answer_W (3 : Int) n30 (0 : Int) s10 n n29 n30 
                (k (3 : Int) n30 (0 : Int) n29 s10))
              (G_spec_l03Two_answer_W (0 : Int) (Go.IntKind.wrap Go.IntKind.i64 ((Go.IntKind.wrap Go.IntKind.i64 (j8 * (256 : Int))) + (Int.tmod n2 (256 : Int)))) n28 s10 n n29 n30 
                (k (0 : Int) (Go.IntKind.wrap Go.IntKind.i64 ((Go.IntKind.wrap Go.IntKind.i64 (j8 * (256 : Int))) + (Int.tmod n2 (256 : Int)))) n28 n29 s10))))))))))))))))))
theorem ea_e_spec_WalkTwo (N : Nat) (G_spec_SetWord : ∀ {R : Type} (s : ByteArray) (n : Int) (n1 : Int) (k : ByteArray → Option R), Option R) (G_spec_l03May : ∀ {R : Type} (n : Int) (n1 : Int) (b : Bool) (k : Bool → Option R), Option R) (G_spec_l01Word : ∀ {R : Type} (s : ByteArray) (n : Int) (k : Int → Option R), Option R) (G_spec_l03Two_answer_W : ∀ {R : Type} (n : Int) (n1 : Int) (n2 : Int) (s : ByteArray) (n3 : Int) (n4 : Int) (n5 : Int) (k : Option R), Option R) (G_spec_l03Two_place_W : ∀ {R : Type} (n : Int) (n1 : Int) (s : ByteArray) (n2 : Int) (n3 : Int) (n4 : Int) (k : Int → ByteArray → Int → Int → Option R), Option R) (G_spec_l03Acc : ∀ {R : Type} (n : Int) (k : Bool → Option R), Option R) (G_spec_MemFault : ∀ {R : Type} (s : ByteArray) (k : Int → Option R), Option R) {R : Type} (s : ByteArray) (n : Int) (n1 : Int) (n2 : Int) (n3 : Int) (b : Bool) (K : AV → Hp E → Option R) :
    runFnI (E := E) (OA_spec_WalkTwo N G_spec_SetWord G_spec_l03May G_spec_l01Word G_spec_l03Two_answer_W G_spec_l03Two_place_W G_spec_l03Acc G_spec_MemFault) (noIt) sl_spec_WalkTwo J_spec_WalkTwo Go.Proofs.Try.f55 [(Go.Eng.AV.sc (Go.Eng.SV.str s)), (Go.Eng.AV.sc (Go.Eng.SV.int Go.IntKind.i64 n)), (Go.Eng.AV.sc (Go.Eng.SV.int Go.IntKind.i64 n1)), (Go.Eng.AV.sc (Go.Eng.SV.int Go.IntKind.i64 n2)), (Go.Eng.AV.sc (Go.Eng.SV.int Go.IntKind.i64 n3)), (Go.Eng.AV.sc (Go.Eng.SV.bool b))] [] K =
      ga_g_spec_WalkTwo N G_spec_SetWord G_spec_l03May G_spec_l01Word G_spec_l03Two_answer_W G_spec_l03Two_place_W G_spec_l03Acc G_spec_MemFault s n n1 n2 n3 b (fun n31 n32 n33 n34 s11 => K (Go.Eng.AV.agg [(Go.Eng.SV.int Go.IntKind.i64 n31), (Go.Eng.SV.int Go.IntKind.i64 n32), (Go.Eng.SV.int Go.IntKind.i64 n33), (Go.Eng.SV.int Go.IntKind.i64 n34), (Go.Eng.SV.str s11)]) []) := by kernel_rfl
theorem e_spec_WalkTwo (N : Nat) {R : Type} (s : ByteArray) (n : Int) (n1 : Int) (n2 : Int) (n3 : Int) (b : Bool) (K : AV → Hp E → Option R) :
    runFnI (E := E) (O_spec_WalkTwo N) (noIt) sl_spec_WalkTwo J_spec_WalkTwo Go.Proofs.Try.f55 [(Go.Eng.AV.sc (Go.Eng.SV.str s)), (Go.Eng.AV.sc (Go.Eng.SV.int Go.IntKind.i64 n)), (Go.Eng.AV.sc (Go.Eng.SV.int Go.IntKind.i64 n1)), (Go.Eng.AV.sc (Go.Eng.SV.int Go.IntKind.i64 n2)), (Go.Eng.AV.sc (Go.Eng.SV.int Go.IntKind.i64 n3)), (Go.Eng.AV.sc (Go.Eng.SV.bool b))] [] K =
      g_spec_WalkTwo N s n n1 n2 n3 b (fun n31 n32 n33 n34 s11 => K (Go.Eng.AV.agg [(Go.Eng.SV.int Go.IntKind.i64 n31), (Go.Eng.SV.int Go.IntKind.i64 n32), (Go.Eng.SV.int Go.IntKind.i64 n33), (Go.Eng.SV.int Go.IntKind.i64 n34), (Go.Eng.SV.str s11)]) []) := castPr (by kernel_rfl) (ea_e_spec_WalkTwo N (g_spec_SetWord N) (g_spec_l03May N) (g_spec_l01Word N) (g_spec_l03Two_answer_W N) (g_spec_l03Two_place_W N) (g_spec_l03Acc N) (g_spec_MemFault N) s n n1 n2 n3 b K)
def o_spec_WalkTwo (N : Nat) {R : Type} (args : List AV) (H : Hp E) (K : AV → Hp E → Option R) : Option R :=
  match args, H with
  | [(Go.Eng.AV.sc (Go.Eng.SV.str s)), (Go.Eng.AV.sc (Go.Eng.SV.int Go.IntKind.i64 n)), (Go.Eng.AV.sc (Go.Eng.SV.int Go.IntKind.i64 n1)), (Go.Eng.AV.sc (Go.Eng.SV.int Go.IntKind.i64 n2)), (Go.Eng.AV.sc (Go.Eng.SV.int Go.IntKind.i64 n3)), (Go.Eng.AV.sc (Go.Eng.SV.bool b))], [] => g_spec_WalkTwo N s n n1 n2 n3 b (fun n31 n32 n33 n34 s11 => K (Go.Eng.AV.agg [(Go.Eng.SV.int Go.IntKind.i64 n31), (Go.Eng.SV.int Go.IntKind.i64 n32), (Go.Eng.SV.int Go.IntKind.i64 n33), (Go.Eng.SV.int Go.IntKind.i64 n34), (Go.Eng.SV.str s11)]) [])
  | _, _ => none
theorem o_spec_WalkTwo_ok (N : Nat) : FnOk E 55 (o_spec_WalkTwo N) := by
  intro R args H K r h
  unfold o_spec_WalkTwo at h
  dsimp only at h
  split at h
  · exact fnB_ok (ids := []) (top := []) ok (O_spec_WalkTwo_ok N) (jn_ok _ _ _) Go.Proofs.Try.func55 (by kernel_rfl) (IT := noIt) (sl := sl_spec_WalkTwo) (J := J_spec_WalkTwo) (K := K) (H := []) (noIt_ok) (by kernel_rfl) rfl ((e_spec_WalkTwo N _ _ _ _ _ _ K).trans h)
  · cases h
/-! ### loop.example/g00038/impl.ymemOk -/
abbrev sl_impl_ymemOk : SlotT := []
abbrev J_impl_ymemOk : JT := jn [(1, [(2, .b)])] [] []
noncomputable def O_impl_ymemOk (N : Nat) : Orc E := noFn
theorem O_impl_ymemOk_ok (N : Nat) : OrcOk (O_impl_ymemOk N) := noFn_ok
def g_impl_ymemOk (N : Nat) {R : Type} (s : ByteArray) (k : Bool → Option R) : Option R :=
  (oK (cond (decide (((((ByteArray.size s) : Nat) : Int) ≥ (256 : Int))))
    (cond (decide (((((ByteArray.size s) : Nat) : Int) ≤ (65536 : Int))))
      (some ((Int.tmod (((ByteArray.size s) : Nat) : Int) (256 : Int)) == (0 : Int)))
      (some Bool.false))
    (some Bool.false)) fun j =>
  (k j))
theorem e_impl_ymemOk (N : Nat) {R : Type} (s : ByteArray) (K : AV → Hp E → Option R) :
    runFnI (E := E) (O_impl_ymemOk N) (noIt) sl_impl_ymemOk J_impl_ymemOk Go.Proofs.Try.f68 [(Go.Eng.AV.sc (Go.Eng.SV.str s))] [] K =
      g_impl_ymemOk N s (fun b => K (Go.Eng.AV.sc (Go.Eng.SV.bool b)) []) := by kernel_rfl
def o_impl_ymemOk (N : Nat) {R : Type} (args : List AV) (H : Hp E) (K : AV → Hp E → Option R) : Option R :=
  match args, H with
  | [(Go.Eng.AV.sc (Go.Eng.SV.str s))], [] => g_impl_ymemOk N s (fun b => K (Go.Eng.AV.sc (Go.Eng.SV.bool b)) [])
  | _, _ => none
theorem o_impl_ymemOk_ok (N : Nat) : FnOk E 68 (o_impl_ymemOk N) := by
  intro R args H K r h
  unfold o_impl_ymemOk at h
  dsimp only at h
  split at h
  · exact fnB_ok (ids := []) (top := []) ok (O_impl_ymemOk_ok N) (jn_ok _ _ _) Go.Proofs.Try.func68 (by kernel_rfl) (IT := noIt) (sl := sl_impl_ymemOk) (J := J_impl_ymemOk) (K := K) (H := []) (noIt_ok) (by kernel_rfl) rfl ((e_impl_ymemOk N _ K).trans h)
  · cases h
/-! ### loop.example/g00038/impl.yin -/
abbrev sl_impl_yin : SlotT := []
abbrev J_impl_yin : JT := jn [(1, [(6, .b)])] [] []
noncomputable def O_impl_yin (N : Nat) : Orc E := noFn
theorem O_impl_yin_ok (N : Nat) : OrcOk (O_impl_yin N) := noFn_ok
def g_impl_yin (N : Nat) {R : Type} (n : Int) (n1 : Int) (n2 : Int) (k : Bool → Option R) : Option R :=
  (oK (cond (decide ((n ≥ n1)))
    (some (decide ((n ≤ n2))))
    (some Bool.false)) fun j =>
  (k j))
theorem e_impl_yin (N : Nat) {R : Type} (n : Int) (n1 : Int) (n2 : Int) (K : AV → Hp E → Option R) :
    runFnI (E := E) (O_impl_yin N) (noIt) sl_impl_yin J_impl_yin Go.Proofs.Try.f96 [(Go.Eng.AV.sc (Go.Eng.SV.int Go.IntKind.i64 n)), (Go.Eng.AV.sc (Go.Eng.SV.int Go.IntKind.i64 n1)), (Go.Eng.AV.sc (Go.Eng.SV.int Go.IntKind.i64 n2))] [] K =
      g_impl_yin N n n1 n2 (fun b => K (Go.Eng.AV.sc (Go.Eng.SV.bool b)) []) := by kernel_rfl
def o_impl_yin (N : Nat) {R : Type} (args : List AV) (H : Hp E) (K : AV → Hp E → Option R) : Option R :=
  match args, H with
  | [(Go.Eng.AV.sc (Go.Eng.SV.int Go.IntKind.i64 n)), (Go.Eng.AV.sc (Go.Eng.SV.int Go.IntKind.i64 n1)), (Go.Eng.AV.sc (Go.Eng.SV.int Go.IntKind.i64 n2))], [] => g_impl_yin N n n1 n2 (fun b => K (Go.Eng.AV.sc (Go.Eng.SV.bool b)) [])
  | _, _ => none
theorem o_impl_yin_ok (N : Nat) : FnOk E 96 (o_impl_yin N) := by
  intro R args H K r h
  unfold o_impl_yin at h
  dsimp only at h
  split at h
  · exact fnB_ok (ids := []) (top := []) ok (O_impl_yin_ok N) (jn_ok _ _ _) Go.Proofs.Try.func96 (by kernel_rfl) (IT := noIt) (sl := sl_impl_yin) (J := J_impl_yin) (K := K) (H := []) (noIt_ok) (by kernel_rfl) rfl ((e_impl_yin N _ _ _ K).trans h)
  · cases h
/-! ### loop.example/g00038/impl.ywalkOk -/
abbrev sl_impl_ywalkOk : SlotT := []
abbrev J_impl_ywalkOk : JT := jn [(1, [(6, .b)])] [] []
noncomputable def O_impl_ywalkOk (N : Nat) : Orc E := addFn 96 (o_impl_yin N) (noFn)
theorem O_impl_ywalkOk_ok (N : Nat) : OrcOk (O_impl_ywalkOk N) := addFn_ok (o_impl_yin_ok N) (noFn_ok)
def g_impl_ywalkOk (N : Nat) {R : Type} (n : Int) (n1 : Int) (n2 : Int) (k : Bool → Option R) : Option R :=
  (oK (g_impl_yin N n (0 : Int) (255 : Int) fun b =>
    (cond b
    (g_impl_yin N n1 (0 : Int) (262143 : Int) fun b1 =>
      (cond b1
      (g_impl_yin N n2 (1 : Int) (3 : Int) fun b2 =>
        (some b2))
      (some Bool.false)))
    (some Bool.false))) fun j =>
  (k j))
theorem e_impl_ywalkOk (N : Nat) {R : Type} (n : Int) (n1 : Int) (n2 : Int) (K : AV → Hp E → Option R) :
    runFnI (E := E) (O_impl_ywalkOk N) (noIt) sl_impl_ywalkOk J_impl_ywalkOk Go.Proofs.Try.f69 [(Go.Eng.AV.sc (Go.Eng.SV.int Go.IntKind.i64 n)), (Go.Eng.AV.sc (Go.Eng.SV.int Go.IntKind.i64 n1)), (Go.Eng.AV.sc (Go.Eng.SV.int Go.IntKind.i64 n2))] [] K =
      g_impl_ywalkOk N n n1 n2 (fun b3 => K (Go.Eng.AV.sc (Go.Eng.SV.bool b3)) []) := by kernel_rfl
def o_impl_ywalkOk (N : Nat) {R : Type} (args : List AV) (H : Hp E) (K : AV → Hp E → Option R) : Option R :=
  match args, H with
  | [(Go.Eng.AV.sc (Go.Eng.SV.int Go.IntKind.i64 n)), (Go.Eng.AV.sc (Go.Eng.SV.int Go.IntKind.i64 n1)), (Go.Eng.AV.sc (Go.Eng.SV.int Go.IntKind.i64 n2))], [] => g_impl_ywalkOk N n n1 n2 (fun b3 => K (Go.Eng.AV.sc (Go.Eng.SV.bool b3)) [])
  | _, _ => none
theorem o_impl_ywalkOk_ok (N : Nat) : FnOk E 69 (o_impl_ywalkOk N) := by
  intro R args H K r h
  unfold o_impl_ywalkOk at h
  dsimp only at h
  split at h
  · exact fnB_ok (ids := []) (top := []) ok (O_impl_ywalkOk_ok N) (jn_ok _ _ _) Go.Proofs.Try.func69 (by kernel_rfl) (IT := noIt) (sl := sl_impl_ywalkOk) (J := J_impl_ywalkOk) (K := K) (H := []) (noIt_ok) (by kernel_rfl) rfl ((e_impl_ywalkOk N _ _ _ K).trans h)
  · cases h
/-! ### loop.example/g00038/impl.yframes -/
abbrev sl_impl_yframes_w : SlotT := []
abbrev J_impl_yframes_w : JT := jn [] [] []
noncomputable def O_impl_yframes_w (N : Nat) : Orc E := noFn
theorem O_impl_yframes_w_ok (N : Nat) : OrcOk (O_impl_yframes_w N) := noFn_ok
def g_impl_yframes_w (N : Nat) {R : Type} (b : Bool) (l : List Int) (k : Int → Option R) : Option R :=
  (k (Go.IntKind.wrap Go.IntKind.i64 (Int.tdiv (((List.length l) : Nat) : Int) (256 : Int))))
theorem e_impl_yframes_w (N : Nat) {R : Type} (b : Bool) (l : List Int) (K : AV → Hp E → Option R) :
    runFnI (E := E) (O_impl_yframes_w N) (noIt) sl_impl_yframes_w J_impl_yframes_w Go.Proofs.Try.f151 [(Go.Eng.AV.sc (Go.Eng.SV.slc 0 Option.none b))] [(Option.some (Go.Eng.HE.mk Bool.false (Go.Eng.HB.rows (Go.Sa.B.u8 l))))] K =
      g_impl_yframes_w N b l (fun n => K (Go.Eng.AV.sc (Go.Eng.SV.int Go.IntKind.i64 n)) [(Option.some (Go.Eng.HE.mk Bool.false (Go.Eng.HB.rows (Go.Sa.B.u8 l))))]) := by kernel_rfl
def o_impl_yframes_w (N : Nat) {R : Type} (args : List AV) (H : Hp E) (K : AV → Hp E → Option R) : Option R :=
  match args, H with
  | [(Go.Eng.AV.sc (Go.Eng.SV.slc 0 Option.none b))], [(Option.some (Go.Eng.HE.mk Bool.false (Go.Eng.HB.rows (Go.Sa.B.u8 l))))] => g_impl_yframes_w N b l (fun n => K (Go.Eng.AV.sc (Go.Eng.SV.int Go.IntKind.i64 n)) [(Option.some (Go.Eng.HE.mk Bool.false (Go.Eng.HB.rows (Go.Sa.B.u8 l))))])
  | _, _ => none
theorem o_impl_yframes_w_ok (N : Nat) : FnOk E 151 (o_impl_yframes_w N) := by
  intro R args H K r h
  unfold o_impl_yframes_w at h
  dsimp only at h
  split at h
  · exact fnB_ok (ids := []) (top := []) ok (O_impl_yframes_w_ok N) (jn_ok _ _ _) Go.Proofs.Try.func151 (by kernel_rfl) (IT := noIt) (sl := sl_impl_yframes_w) (J := J_impl_yframes_w) (K := K) (H := [(Option.some (Go.Eng.HE.mk Bool.false (Go.Eng.HB.rows (Go.Sa.B.u8 _))))]) (noIt_ok) (by kernel_rfl) rfl ((e_impl_yframes_w N _ _ K).trans h)
  · cases h
/-! ### loop.example/g00038/impl.ygetWord -/
abbrev sl_impl_ygetWord_w : SlotT := []
abbrev J_impl_ygetWord_w : JT := jn [] [] []
noncomputable def O_impl_ygetWord_w (N : Nat) : Orc E := noFn
theorem O_impl_ygetWord_w_ok (N : Nat) : OrcOk (O_impl_ygetWord_w N) := noFn_ok
def g_impl_ygetWord_w (N : Nat) {R : Type} (b : Bool) (n : Int) (l : List Int) (k : Int → Option R) : Option R :=
  (cond ((decide (((0 : Int) ≤ n))) && (decide ((n < (((List.length l) : Nat) : Int)))))
  (elemK l (Int.toNat n) fun x =>
    (cond ((decide (((0 : Int) ≤ (Go.IntKind.wrap Go.IntKind.i64 (n + (1 : Int)))))) && (decide (((Go.IntKind.wrap Go.IntKind.i64 (n + (1 : Int))) < (((List.length l) : Nat) : Int)))))
    (elemK l (Int.toNat (Go.IntKind.wrap Go.IntKind.i64 (n + (1 : Int)))) fun x1 =>
      (cond ((decide (((0 : Int) ≤ (Go.IntKind.wrap Go.IntKind.i64 (n + (2 : Int)))))) && (decide (((Go.IntKind.wrap Go.IntKind.i64 (n + (2 : Int))) < (((List.length l) : Nat) : Int)))))
      (elemK l (Int.toNat (Go.IntKind.wrap Go.IntKind.i64 (n + (2 : Int)))) fun x2 =>
        (cond ((decide (((0 : Int) ≤ (Go.IntKind.wrap Go.IntKind.i64 (n + (3 : Int)))))) && (decide (((Go.IntKind.wrap Go.IntKind.i64 (n + (3 : Int))) < (((List.length l) : Nat) : Int)))))
        (elemK l (Int.toNat (Go.IntKind.wrap Go.IntKind.i64 (n + (3 : Int)))) fun x3 =>
          (k (Go.IntKind.wrap Go.IntKind.i64 (((BitVec.toNat ((BitVec.ofInt 64 (Go.IntKind.wrap Go.IntKind.i64 (((BitVec.toNat ((BitVec.ofInt 64 (Go.IntKind.wrap Go.IntKind.i64 (((BitVec.toNat ((BitVec.ofInt 64 (Go.IntKind.wrap Go.IntKind.i64 x)) ||| (BitVec.ofInt 64 (Go.IntKind.wrap Go.IntKind.i64 ((Go.IntKind.wrap Go.IntKind.i64 x1) * (256 : Int)))))) : Nat) : Int))) ||| (BitVec.ofInt 64 (Go.IntKind.wrap Go.IntKind.i64 ((Go.IntKind.wrap Go.IntKind.i64 x2) * (65536 : Int)))))) : Nat) : Int))) ||| (BitVec.ofInt 64 (Go.IntKind.wrap Go.IntKind.i64 ((Go.IntKind.wrap Go.IntKind.i64 x3) * (16777216 : Int)))))) : Nat) : Int))))
        none))
      none))
    none))
  none)
theorem e_impl_ygetWord_w (N : Nat) {R : Type} (b : Bool) (n : Int) (l : List Int) (K : AV → Hp E → Option R) :
    runFnI (E := E) (O_impl_ygetWord_w N) (noIt) sl_impl_ygetWord_w J_impl_ygetWord_w Go.Proofs.Try.f137 [(Go.Eng.AV.sc (Go.Eng.SV.slc 0 Option.none b)), (Go.Eng.AV.sc (Go.Eng.SV.int Go.IntKind.i64 n))] [(Option.some (Go.Eng.HE.mk Bool.false (Go.Eng.HB.rows (Go.Sa.B.u8 l))))] K =
      g_impl_ygetWord_w N b n l (fun n1 => K (Go.Eng.AV.sc (Go.Eng.SV.int Go.IntKind.i64 n1)) [(Option.some (Go.Eng.HE.mk Bool.false (Go.Eng.HB.rows (Go.Sa.B.u8 l))))]) := by kernel_rfl
def o_impl_ygetWord_w (N : Nat) {R : Type} (args : List AV) (H : Hp E) (K : AV → Hp E → Option R) : Option R :=
  match args, H with
  | [(Go.Eng.AV.sc (Go.Eng.SV.slc 0 Option.none b)), (Go.Eng.AV.sc (Go.Eng.SV.int Go.IntKind.i64 n))], [(Option.some (Go.Eng.HE.mk Bool.false (Go.Eng.HB.rows (Go.Sa.B.u8 l))))] => g_impl_ygetWord_w N b n l (fun n1 => K (Go.Eng.AV.sc (Go.Eng.SV.int Go.IntKind.i64 n1)) [(Option.some (Go.Eng.HE.mk Bool.false (Go.Eng.HB.rows (Go.Sa.B.u8 l))))])
  | _, _ => none
theorem o_impl_ygetWord_w_ok (N : Nat) : FnOk E 137 (o_impl_ygetWord_w N) := by
  intro R args H K r h
  unfold o_impl_ygetWord_w at h
  dsimp only at h
  split at h
  · exact fnB_ok (ids := []) (top := []) ok (O_impl_ygetWord_w_ok N) (jn_ok _ _ _) Go.Proofs.Try.func137 (by kernel_rfl) (IT := noIt) (sl := sl_impl_ygetWord_w) (J := J_impl_ygetWord_w) (K := K) (H := [(Option.some (Go.Eng.HE.mk Bool.false (Go.Eng.HB.rows (Go.Sa.B.u8 _))))]) (noIt_ok) (by kernel_rfl) rfl ((e_impl_ygetWord_w N _ _ _ K).trans h)
  · cases h
/-! ### loop.example/g00038/impl.ylets -/
abbrev sl_impl_ylets : SlotT := []
abbrev J_impl_ylets : JT := jn [(11, [(6, .b)])] [(8, [(7, .i .i64)]), (10, [(7, .i .i64)]), (14, [(7, .i .i64)]), (18, [(7, .i .i64)])] []
noncomputable def O_impl_ylets (N : Nat) : Orc E := noFn
theorem O_impl_ylets_ok (N : Nat) : OrcOk (O_impl_ylets N) := noFn_ok
def g_impl_ylets (N : Nat) {R : Type} (n : Int) (n1 : Int) (b : Bool) (k : Bool → Option R) : Option R :=
  (oK (cond b
    (some (16 : Int))
    (some (0 : Int))) fun j =>
  (oK (cond (n1 == (1 : Int))
    (some (Go.IntKind.wrap Go.IntKind.i64 (((BitVec.toNat ((BitVec.ofInt 64 j) ||| (BitVec.ofInt 64 (2 : Int)))) : Nat) : Int)))
    (oK (cond (n1 == (2 : Int))
        (some (Go.IntKind.wrap Go.IntKind.i64 (((BitVec.toNat ((BitVec.ofInt 64 j) ||| (BitVec.ofInt 64 (4 : Int)))) : Nat) : Int)))
        (oK (cond (n1 == (3 : Int))
            (some (Go.IntKind.wrap Go.IntKind.i64 (((BitVec.toNat ((BitVec.ofInt 64 j) ||| (BitVec.ofInt 64 (8 : Int)))) : Nat) : Int)))
            (some j)) fun j1 =>
          (some j1))) fun j2 =>
      (some j2))) fun j3 =>
  (oK (cond ((Go.IntKind.wrap Go.IntKind.i64 (((BitVec.toNat ((BitVec.ofInt 64 n) &&& (BitVec.ofInt 64 (Go.IntKind.wrap Go.IntKind.i64 (((BitVec.toNat ((BitVec.ofInt 64 j3) ||| (BitVec.ofInt 64 (1 : Int)))) : Nat) : Int))))) : Nat) : Int)) == (Go.IntKind.wrap Go.IntKind.i64 (((BitVec.toNat ((BitVec.ofInt 64 j3) ||| (BitVec.ofInt 64 (1 : Int)))) : Nat) : Int)))
    (cond b
      (some Bool.true)
      (cond (n1 != (3 : Int))
        (some Bool.true)
        (some ((Go.IntKind.wrap Go.IntKind.i64 (((BitVec.toNat ((BitVec.ofInt 64 n) &&& (BitVec.ofInt 64 (16 : Int)))) : Nat) : Int)) == (0 : Int)))))
    (some Bool.false)) fun j4 =>
  (k j4))))
theorem e_impl_ylets (N : Nat) {R : Type} (n : Int) (n1 : Int) (b : Bool) (K : AV → Hp E → Option R) :
    runFnI (E := E) (O_impl_ylets N) (noIt) sl_impl_ylets J_impl_ylets Go.Proofs.Try.f138 [(Go.Eng.AV.sc (Go.Eng.SV.int Go.IntKind.i64 n)), (Go.Eng.AV.sc (Go.Eng.SV.int Go.IntKind.i64 n1)), (Go.Eng.AV.sc (Go.Eng.SV.bool b))] [] K =
      g_impl_ylets N n n1 b (fun b1 => K (Go.Eng.AV.sc (Go.Eng.SV.bool b1)) []) := by kernel_rfl
def o_impl_ylets (N : Nat) {R : Type} (args : List AV) (H : Hp E) (K : AV → Hp E → Option R) : Option R :=
  match args, H with
  | [(Go.Eng.AV.sc (Go.Eng.SV.int Go.IntKind.i64 n)), (Go.Eng.AV.sc (Go.Eng.SV.int Go.IntKind.i64 n1)), (Go.Eng.AV.sc (Go.Eng.SV.bool b))], [] => g_impl_ylets N n n1 b (fun b1 => K (Go.Eng.AV.sc (Go.Eng.SV.bool b1)) [])
  | _, _ => none
theorem o_impl_ylets_ok (N : Nat) : FnOk E 138 (o_impl_ylets N) := by
  intro R args H K r h
  unfold o_impl_ylets at h
  dsimp only at h
  split at h
  · exact fnB_ok (ids := []) (top := []) ok (O_impl_ylets_ok N) (jn_ok _ _ _) Go.Proofs.Try.func138 (by kernel_rfl) (IT := noIt) (sl := sl_impl_ylets) (J := J_impl_ylets) (K := K) (H := []) (noIt_ok) (by kernel_rfl) rfl ((e_impl_ylets N _ _ _ K).trans h)
  · cases h
/-! ### loop.example/g00038/impl.yputs -/
abbrev sl_impl_yputs : SlotT := []
abbrev J_impl_yputs : JT := jn [] [] []
noncomputable def O_impl_yputs (N : Nat) : Orc E := noFn
theorem O_impl_yputs_ok (N : Nat) : OrcOk (O_impl_yputs N) := noFn_ok
def g_impl_yputs (N : Nat) {R : Type} (n : Int) (k : Int → Option R) : Option R :=
  (cond (n == (2 : Int))
  (k (96 : Int))
  (k (32 : Int)))
theorem e_impl_yputs (N : Nat) {R : Type} (n : Int) (K : AV → Hp E → Option R) :
    runFnI (E := E) (O_impl_yputs N) (noIt) sl_impl_yputs J_impl_yputs Go.Proofs.Try.f139 [(Go.Eng.AV.sc (Go.Eng.SV.int Go.IntKind.i64 n))] [] K =
      g_impl_yputs N n (fun n1 => K (Go.Eng.AV.sc (Go.Eng.SV.int Go.IntKind.i64 n1)) []) := by kernel_rfl
def o_impl_yputs (N : Nat) {R : Type} (args : List AV) (H : Hp E) (K : AV → Hp E → Option R) : Option R :=
  match args, H with
  | [(Go.Eng.AV.sc (Go.Eng.SV.int Go.IntKind.i64 n))], [] => g_impl_yputs N n (fun n1 => K (Go.Eng.AV.sc (Go.Eng.SV.int Go.IntKind.i64 n1)) [])
  | _, _ => none
theorem o_impl_yputs_ok (N : Nat) : FnOk E 139 (o_impl_yputs N) := by
  intro R args H K r h
  unfold o_impl_yputs at h
  dsimp only at h
  split at h
  · exact fnB_ok (ids := []) (top := []) ok (O_impl_yputs_ok N) (jn_ok _ _ _) Go.Proofs.Try.func139 (by kernel_rfl) (IT := noIt) (sl := sl_impl_yputs) (J := J_impl_yputs) (K := K) (H := []) (noIt_ok) (by kernel_rfl) rfl ((e_impl_yputs N _ K).trans h)
  · cases h
end Go.Sa
