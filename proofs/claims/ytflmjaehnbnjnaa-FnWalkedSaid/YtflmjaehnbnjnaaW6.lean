import Derived.Test.YtflmjaehnbnjnaaSpec
import Derived.Test.YtflmjaehnbnjnaaPLb
import Derived.Test.YtflmjaehnbnjnaaW5
set_option linter.all false
namespace Go.Sa
open Go Go.Eng Go.Proofs
set_option maxRecDepth 100000
set_option maxHeartbeats 4000000
/-! ### loop.example/g00038/spec.l03Acc -/
abbrev sl_spec_l03Acc : SlotT := []
abbrev J_spec_l03Acc : JT := jn [(1, [(2, .b)])] [] []
noncomputable def O_spec_l03Acc (N : Nat) : Orc E := noFn
theorem O_spec_l03Acc_ok (N : Nat) : OrcOk (O_spec_l03Acc N) := noFn_ok
noncomputable def g_spec_l03Acc (N : Nat) {R : Type} (n : Int) (k : Bool → Option R) : Option R :=
  (oK (cond (n == (1 : Int))
    (some true)
    (cond (n == (2 : Int))
      (some true)
      (some (n == (3 : Int))))) fun j =>
  (k j))
theorem e_spec_l03Acc (N : Nat) {R : Type} (n : Int) (K : AV → Hp E → Option R) :
    runFnI (E := E) (O_spec_l03Acc N) (noIt) sl_spec_l03Acc J_spec_l03Acc Go.Proofs.Try.f35 [(AV.sc (SV.int IntKind.i64 n))] [] K =
      g_spec_l03Acc N n (fun b => K (AV.sc (SV.bool b)) []) := by kernel_rfl
noncomputable def o_spec_l03Acc (N : Nat) {R : Type} (args : List AV) (H : Hp E) (K : AV → Hp E → Option R) : Option R :=
  match args, H with
  | [(AV.sc (SV.int IntKind.i64 n))], [] => g_spec_l03Acc N n (fun b => K (AV.sc (SV.bool b)) [])
  | _, _ => none
theorem o_spec_l03Acc_ok (N : Nat) : FnOk E 35 (o_spec_l03Acc N) := by
  intro R args H K r h
  unfold o_spec_l03Acc at h
  dsimp only at h
  split at h
  · exact fnB_ok (ids := []) (top := []) ok (O_spec_l03Acc_ok N) (jn_ok _ _ _) Go.Proofs.Try.func35 (by kernel_rfl) (IT := noIt) (sl := sl_spec_l03Acc) (J := J_spec_l03Acc) (K := K) (H := []) (noIt_ok) (by kernel_rfl) rfl ((e_spec_l03Acc N _ K).trans h)
  · cases h
/-! ### loop.example/g00038/spec.l03May -/
abbrev sl_spec_l03May : SlotT := []
abbrev J_spec_l03May : JT := jn [(11, [(6, .b)])] [(9, [(7, .i .i64)]), (11, [(7, .i .i64)])] []
noncomputable def O_spec_l03May (N : Nat) : Orc E := noFn
theorem O_spec_l03May_ok (N : Nat) : OrcOk (O_spec_l03May N) := noFn_ok
noncomputable def g_spec_l03May (N : Nat) {R : Type} (n : Int) (n1 : Int) (b : Bool) (k : Bool → Option R) : Option R :=
  (oK (cond (n1 == (2 : Int))
    (some (4 : Int))
    (oK (cond (n1 == (3 : Int))
        (some (8 : Int))
        (some (2 : Int))) fun j =>
      (some j))) fun j1 =>
  (cond ((IntKind.wrap IntKind.i64 (((BitVec.toNat ((BitVec.ofInt 64 n) &&& (BitVec.ofInt 64 j1))) : Nat) : Int)) == (0 : Int))
  (k false)
  (cond b
    (k ((IntKind.wrap IntKind.i64 (((BitVec.toNat ((BitVec.ofInt 64 n) &&& (BitVec.ofInt 64 (16 : Int)))) : Nat) : Int)) != (0 : Int)))
    (oK (cond (n1 != (3 : Int))
        (some true)
        (some ((IntKind.wrap IntKind.i64 (((BitVec.toNat ((BitVec.ofInt 64 n) &&& (BitVec.ofInt 64 (16 : Int)))) : Nat) : Int)) == (0 : Int)))) fun j2 =>
      (k j2)))))
theorem e_spec_l03May (N : Nat) {R : Type} (n : Int) (n1 : Int) (b : Bool) (K : AV → Hp E → Option R) :
    runFnI (E := E) (O_spec_l03May N) (noIt) sl_spec_l03May J_spec_l03May Go.Proofs.Try.f37 [(AV.sc (SV.int IntKind.i64 n)), (AV.sc (SV.int IntKind.i64 n1)), (AV.sc (SV.bool b))] [] K =
      g_spec_l03May N n n1 b (fun b1 => K (AV.sc (SV.bool b1)) []) := by kernel_rfl
noncomputable def o_spec_l03May (N : Nat) {R : Type} (args : List AV) (H : Hp E) (K : AV → Hp E → Option R) : Option R :=
  match args, H with
  | [(AV.sc (SV.int IntKind.i64 n)), (AV.sc (SV.int IntKind.i64 n1)), (AV.sc (SV.bool b))], [] => g_spec_l03May N n n1 b (fun b1 => K (AV.sc (SV.bool b1)) [])
  | _, _ => none
theorem o_spec_l03May_ok (N : Nat) : FnOk E 37 (o_spec_l03May N) := by
  intro R args H K r h
  unfold o_spec_l03May at h
  dsimp only at h
  split at h
  · exact fnB_ok (ids := []) (top := []) ok (O_spec_l03May_ok N) (jn_ok _ _ _) Go.Proofs.Try.func37 (by kernel_rfl) (IT := noIt) (sl := sl_spec_l03May) (J := J_spec_l03May) (K := K) (H := []) (noIt_ok) (by kernel_rfl) rfl ((e_spec_l03May N _ _ _ K).trans h)
  · cases h
/-! ### loop.example/g00038/spec.Walk -/
abbrev sl_spec_Walk : SlotT := []
abbrev J_spec_Walk : JT := jn [(1, [(41, .b)]), (11, [(74, .b)]), (21, [(127, .b)])] [(130, [(17, .i .i64)]), (147, [(13, .i .i64)])] []
noncomputable def O_spec_Walk (N : Nat) : Orc E := addFn 38 (o_spec_SetWord N) (addFn 37 (o_spec_l03May N) (addFn 36 (o_spec_l03Entry N) (addFn 35 (o_spec_l03Acc N) (addFn 10 (o_spec_MemFault N) (noFn)))))
noncomputable def pa_spec_Walk__o_spec_SetWord (N : Nat) (G_spec_SetWord : ∀ {R : Type} (s : ByteArray) (n : Int) (n1 : Int) (k : ByteArray → Option R), Option R) {R : Type} (args : List AV) (H : Hp E) (K : AV → Hp E → Option R) : Option R :=
  match args, H with
  | [(AV.sc (SV.str s)), (AV.sc (SV.int IntKind.i64 n)), (AV.sc (SV.int IntKind.i64 n1))], [] => G_spec_SetWord s n n1 (fun s2 => K (AV.sc (SV.str s2)) [])
  | _, _ => none
noncomputable def pa_spec_Walk__o_spec_l03May (N : Nat) (G_spec_l03May : ∀ {R : Type} (n : Int) (n1 : Int) (b : Bool) (k : Bool → Option R), Option R) {R : Type} (args : List AV) (H : Hp E) (K : AV → Hp E → Option R) : Option R :=
  match args, H with
  | [(AV.sc (SV.int IntKind.i64 n)), (AV.sc (SV.int IntKind.i64 n1)), (AV.sc (SV.bool b))], [] => G_spec_l03May n n1 b (fun b1 => K (AV.sc (SV.bool b1)) [])
  | _, _ => none
noncomputable def pa_spec_Walk__o_spec_l03Entry (N : Nat) (G_spec_l03Entry : ∀ {R : Type} (s : ByteArray) (n : Int) (n1 : Int) (k : Int → Bool → Option R), Option R) {R : Type} (args : List AV) (H : Hp E) (K : AV → Hp E → Option R) : Option R :=
  match args, H with
  | [(AV.sc (SV.str s)), (AV.sc (SV.int IntKind.i64 n)), (AV.sc (SV.int IntKind.i64 n1))], [] => G_spec_l03Entry s n n1 (fun n3 b => K (AV.tup [(false, [(SV.int IntKind.i64 n3)]), (false, [(SV.bool b)])]) [])
  | _, _ => none
noncomputable def pa_spec_Walk__o_spec_l03Acc (N : Nat) (G_spec_l03Acc : ∀ {R : Type} (n : Int) (k : Bool → Option R), Option R) {R : Type} (args : List AV) (H : Hp E) (K : AV → Hp E → Option R) : Option R :=
  match args, H with
  | [(AV.sc (SV.int IntKind.i64 n))], [] => G_spec_l03Acc n (fun b => K (AV.sc (SV.bool b)) [])
  | _, _ => none
noncomputable def pa_spec_Walk__o_spec_MemFault (N : Nat) (G_spec_MemFault : ∀ {R : Type} (s : ByteArray) (k : Int → Option R), Option R) {R : Type} (args : List AV) (H : Hp E) (K : AV → Hp E → Option R) : Option R :=
  match args, H with
  | [(AV.sc (SV.str s))], [] => G_spec_MemFault s (fun n => K (AV.sc (SV.int IntKind.i64 n)) [])
  | _, _ => none
noncomputable def OA_spec_Walk (N : Nat) (G_spec_SetWord : ∀ {R : Type} (s : ByteArray) (n : Int) (n1 : Int) (k : ByteArray → Option R), Option R) (G_spec_l03May : ∀ {R : Type} (n : Int) (n1 : Int) (b : Bool) (k : Bool → Option R), Option R) (G_spec_l03Entry : ∀ {R : Type} (s : ByteArray) (n : Int) (n1 : Int) (k : Int → Bool → Option R), Option R) (G_spec_l03Acc : ∀ {R : Type} (n : Int) (k : Bool → Option R), Option R) (G_spec_MemFault : ∀ {R : Type} (s : ByteArray) (k : Int → Option R), Option R) : Orc E := addFn 38 (pa_spec_Walk__o_spec_SetWord N G_spec_SetWord) (addFn 37 (pa_spec_Walk__o_spec_l03May N G_spec_l03May) (addFn 36 (pa_spec_Walk__o_spec_l03Entry N G_spec_l03Entry) (addFn 35 (pa_spec_Walk__o_spec_l03Acc N G_spec_l03Acc) (addFn 10 (pa_spec_Walk__o_spec_MemFault N G_spec_MemFault) (noFn)))))
theorem O_spec_Walk_ok (N : Nat) : OrcOk (O_spec_Walk N) := addFn_ok (o_spec_SetWord_ok N) (addFn_ok (o_spec_l03May_ok N) (addFn_ok (o_spec_l03Entry_ok N) (addFn_ok (o_spec_l03Acc_ok N) (addFn_ok (o_spec_MemFault_ok N) (noFn_ok)))))
noncomputable def g_spec_Walk (N : Nat) {R : Type} (s : ByteArray) (n : Int) (n1 : Int) (n2 : Int) (b : Bool) (k : Int → Int → Int → Bool → Bool → ByteArray → (List Int) → Option R) : Option R :=
  (oK (g_spec_MemFault N s fun n3 =>
    (cond (n3 != (0 : Int))
    (some true)
    (cond (decide ((n < (0 : Int))))
      (some true)
      (cond (decide ((n > (255 : Int))))
        (some true)
        (cond (decide ((n1 < (0 : Int))))
          (some true)
          (cond (decide ((n1 ≥ (262144 : Int))))
            (some true)
            (g_spec_l03Acc N n2 fun b1 =>
              (some (!b1))))))))) fun j =>
  (cond j
  (k (0 : Int) (0 : Int) (0 : Int) false true (ByteArray.mk (List.toArray [])) [])
  (g_spec_l03Entry N s n (Int.fdiv n1 (8192 : Int)) fun n4 b2 =>
    (cond (!b2)
    (k (2 : Int) (0 : Int) (0 : Int) false false s [])
    (oK (cond ((IntKind.wrap IntKind.i64 (((BitVec.toNat ((BitVec.ofInt 64 n4) &&& (BitVec.ofInt 64 (1 : Int)))) : Nat) : Int)) != (0 : Int))
        (some ((IntKind.wrap IntKind.i64 (((BitVec.toNat ((BitVec.ofInt 64 n4) &&& (BitVec.ofInt 64 (14 : Int)))) : Nat) : Int)) == (0 : Int)))
        (some false)) fun j1 =>
      (cond j1
      (g_spec_l03Entry N s (Int.fdiv n4 (256 : Int)) (Int.tmod (Int.fdiv n1 (256 : Int)) (32 : Int)) fun n5 b3 =>
        (cond (!b3)
        (k (2 : Int) (0 : Int) (0 : Int) false false s [n])
        (oK (cond ((IntKind.wrap IntKind.i64 (((BitVec.toNat ((BitVec.ofInt 64 n5) &&& (BitVec.ofInt 64 (1 : Int)))) : Nat) : Int)) == (0 : Int))
            (some true)
            (cond ((IntKind.wrap IntKind.i64 (((BitVec.toNat ((BitVec.ofInt 64 n5) &&& (BitVec.ofInt 64 (14 : Int)))) : Nat) : Int)) == (0 : Int))
              (some true)
              (g_spec_l03May N n5 n2 b fun b4 =>
                (some (!b4))))) fun j2 =>
          (cond j2
          (k (1 : Int) (0 : Int) (0 : Int) false (cond (Nat.beq (List.length [(Int.fdiv n4 (256 : Int))]) 0) false false) s ([n] ++ [(Int.fdiv n4 (256 : Int))]))
          (oK (some (Int.fdiv n5 (256 : Int))) fun j3 =>
            (cond (decide (((IntKind.wrap IntKind.i64 ((IntKind.wrap IntKind.i64 (j3 + (1 : Int))) * (256 : Int))) > (((ByteArray.size s) : Nat) : Int))))
            (k (2 : Int) (0 : Int) (0 : Int) false (cond (Nat.beq (List.length [(Int.fdiv n4 (256 : Int))]) 0) false false) s ([n] ++ [(Int.fdiv n4 (256 : Int))]))
            (oK (cond (n2 == (2 : Int))
                (some (IntKind.wrap IntKind.i64 (((BitVec.toNat ((BitVec.ofInt 64 (IntKind.wrap IntKind.i64 (((BitVec.toNat ((BitVec.ofInt 64 n5) ||| (BitVec.ofInt 64 (32 : Int)))) : Nat) : Int))) ||| (BitVec.ofInt 64 (64 : Int)))) : Nat) : Int)))
                (some (IntKind.wrap IntKind.i64 (((BitVec.toNat ((BitVec.ofInt 64 n5) ||| (BitVec.ofInt 64 (32 : Int)))) : Nat) : Int)))) fun j4 =>
              (g_spec_SetWord N s (IntKind.wrap IntKind.i64 ((IntKind.wrap IntKind.i64 ((Int.fdiv n4 (256 : Int)) * (256 : Int))) + (IntKind.wrap IntKind.i64 ((4 : Int) * (Int.tmod (Int.fdiv n1 (256 : Int)) (32 : Int)))))) j4 fun s1 =>
              (k (0 : Int) (IntKind.wrap IntKind.i64 ((IntKind.wrap IntKind.i64 (j3 * (256 : Int))) + (Int.tmod n1 (256 : Int)))) j4 false (cond (Nat.beq (List.length [(Int.fdiv n4 (256 : Int))]) 0) false false) s1 ([n] ++ [(Int.fdiv n4 (256 : Int))]))))))))))
      (oK (cond ((IntKind.wrap IntKind.i64 (((BitVec.toNat ((BitVec.ofInt 64 n4) &&& (BitVec.ofInt 64 (1 : Int)))) : Nat) : Int)) == (0 : Int))
          (some true)
          (cond ((IntKind.wrap IntKind.i64 (((BitVec.toNat ((BitVec.ofInt 64 n4) &&& (BitVec.ofInt 64 (14 : Int)))) : Nat) : Int)) == (0 : Int))
            (some true)
            (cond ((Int.tmod (Int.fdiv n4 (256 : Int)) (32 : Int)) != (0 : Int))
              (some true)
              (g_spec_l03May N n4 n2 b fun b5 =>
                (some (!b5)))))) fun j5 =>
        (cond j5
        (k (1 : Int) (0 : Int) (0 : Int) false false s [n])
        (oK (some (IntKind.wrap IntKind.i64 ((Int.fdiv n4 (256 : Int)) + (Int.tmod (Int.fdiv n1 (256 : Int)) (32 : Int))))) fun j6 =>
          (cond (decide (((IntKind.wrap IntKind.i64 ((IntKind.wrap IntKind.i64 (j6 + (1 : Int))) * (256 : Int))) > (((ByteArray.size s) : Nat) : Int))))
          (k (2 : Int) (0 : Int) (0 : Int) false false s [n])
          (oK (cond (n2 == (2 : Int))
              (some (IntKind.wrap IntKind.i64 (((BitVec.toNat ((BitVec.ofInt 64 (IntKind.wrap IntKind.i64 (((BitVec.toNat ((BitVec.ofInt 64 n4) ||| (BitVec.ofInt 64 (32 : Int)))) : Nat) : Int))) ||| (BitVec.ofInt 64 (64 : Int)))) : Nat) : Int)))
              (some (IntKind.wrap IntKind.i64 (((BitVec.toNat ((BitVec.ofInt 64 n4) ||| (BitVec.ofInt 64 (32 : Int)))) : Nat) : Int)))) fun j7 =>
            (g_spec_SetWord N s (IntKind.wrap IntKind.i64 ((IntKind.wrap IntKind.i64 (n * (256 : Int))) + (IntKind.wrap IntKind.i64 ((4 : Int) * (Int.fdiv n1 (8192 : Int)))))) j7 fun s2 =>
            (k (0 : Int) (IntKind.wrap IntKind.i64 ((IntKind.wrap IntKind.i64 (j6 * (256 : Int))) + (Int.tmod n1 (256 : Int)))) j7 true false s2 [n])))))))))))))
noncomputable def ga_g_spec_Walk (N : Nat) (G_spec_SetWord : ∀ {R : Type} (s : ByteArray) (n : Int) (n1 : Int) (k : ByteArray → Option R), Option R) (G_spec_l03May : ∀ {R : Type} (n : Int) (n1 : Int) (b : Bool) (k : Bool → Option R), Option R) (G_spec_l03Entry : ∀ {R : Type} (s : ByteArray) (n : Int) (n1 : Int) (k : Int → Bool → Option R), Option R) (G_spec_l03Acc : ∀ {R : Type} (n : Int) (k : Bool → Option R), Option R) (G_spec_MemFault : ∀ {R : Type} (s : ByteArray) (k : Int → Option R), Option R) {R : Type} (s : ByteArray) (n : Int) (n1 : Int) (n2 : Int) (b : Bool) (k : Int → Int → Int → Bool → Bool → ByteArray → (List Int) → Option R) : Option R :=
  (oK (G_spec_MemFault s fun n3 =>
    (cond (n3 != (0 : Int))
    (some true)
    (cond (decide ((n < (0 : Int))))
      (some true)
      (cond (decide ((n > (255 : Int))))
        (some true)
        (cond (decide ((n1 < (0 : Int))))
          (some true)
          (cond (decide ((n1 ≥ (262144 : Int))))
            (some true)
            (G_spec_l03Acc n2 fun b1 =>
              (some (!b1))))))))) fun j =>
  (cond j
  (k (0 : Int) (0 : Int) (0 : Int) false true (ByteArray.mk (List.toArray [])) [])
  (G_spec_l03Entry s n (Int.fdiv n1 (8192 : Int)) fun n4 b2 =>
    (cond (!b2)
    (k (2 : Int) (0 : Int) (0 : Int) false false s [])
    (oK (cond ((IntKind.wrap IntKind.i64 (((BitVec.toNat ((BitVec.ofInt 64 n4) &&& (BitVec.ofInt 64 (1 : Int)))) : Nat) : Int)) != (0 : Int))
        (some ((IntKind.wrap IntKind.i64 (((BitVec.toNat ((BitVec.ofInt 64 n4) &&& (BitVec.ofInt 64 (14 : Int)))) : Nat) : Int)) == (0 : Int)))
        (some false)) fun j1 =>
      (cond j1
      (G_spec_l03Entry s (Int.fdiv n4 (256 : Int)) (Int.tmod (Int.fdiv n1 (256 : Int)) (32 : Int)) fun n5 b3 =>
        (cond (!b3)
        (k (2 : Int) (0 : Int) (0 : Int) false false s [n])
        (oK (cond ((IntKind.wrap IntKind.i64 (((BitVec.toNat ((BitVec.ofInt 64 n5) &&& (BitVec.ofInt 64 (1 : Int)))) : Nat) : Int)) == (0 : Int))
            (some true)
            (cond ((IntKind.wrap IntKind.i64 (((BitVec.toNat ((BitVec.ofInt 64 n5) &&& (BitVec.ofInt 64 (14 : Int)))) : Nat) : Int)) == (0 : Int))
              (some true)
              (G_spec_l03May n5 n2 b fun b4 =>
                (some (!b4))))) fun j2 =>
          (cond j2
          (k (1 : Int) (0 : Int) (0 : Int) false (cond (Nat.beq (List.length [(Int.fdiv n4 (256 : Int))]) 0) false false) s ([n] ++ [(Int.fdiv n4 (256 : Int))]))
          (oK (some (Int.fdiv n5 (256 : Int))) fun j3 =>
            (cond (decide (((IntKind.wrap IntKind.i64 ((IntKind.wrap IntKind.i64 (j3 + (1 : Int))) * (256 : Int))) > (((ByteArray.size s) : Nat) : Int))))
            (k (2 : Int) (0 : Int) (0 : Int) false (cond (Nat.beq (List.length [(Int.fdiv n4 (256 : Int))]) 0) false false) s ([n] ++ [(Int.fdiv n4 (256 : Int))]))
            (oK (cond (n2 == (2 : Int))
                (some (IntKind.wrap IntKind.i64 (((BitVec.toNat ((BitVec.ofInt 64 (IntKind.wrap IntKind.i64 (((BitVec.toNat ((BitVec.ofInt 64 n5) ||| (BitVec.ofInt 64 (32 : Int)))) : Nat) : Int))) ||| (BitVec.ofInt 64 (64 : Int)))) : Nat) : Int)))
                (some (IntKind.wrap IntKind.i64 (((BitVec.toNat ((BitVec.ofInt 64 n5) ||| (BitVec.ofInt 64 (32 : Int)))) : Nat) : Int)))) fun j4 =>
              (G_spec_SetWord s (IntKind.wrap IntKind.i64 ((IntKind.wrap IntKind.i64 ((Int.fdiv n4 (256 : Int)) * (256 : Int))) + (IntKind.wrap IntKind.i64 ((4 : Int) * (Int.tmod (Int.fdiv n1 (256 : Int)) (32 : Int)))))) j4 fun s1 =>
              (k (0 : Int) (IntKind.wrap IntKind.i64 ((IntKind.wrap IntKind.i64 (j3 * (256 : Int))) + (Int.tmod n1 (256 : Int)))) j4 false (cond (Nat.beq (List.length [(Int.fdiv n4 (256 : Int))]) 0) false false) s1 ([n] ++ [(Int.fdiv n4 (256 : Int))]))))))))))
      (oK (cond ((IntKind.wrap IntKind.i64 (((BitVec.toNat ((BitVec.ofInt 64 n4) &&& (BitVec.ofInt 64 (1 : Int)))) : Nat) : Int)) == (0 : Int))
          (some true)
          (cond ((IntKind.wrap IntKind.i64 (((BitVec.toNat ((BitVec.ofInt 64 n4) &&& (BitVec.ofInt 64 (14 : Int)))) : Nat) : Int)) == (0 : Int))
            (some true)
            (cond ((Int.tmod (Int.fdiv n4 (256 : Int)) (32 : Int)) != (0 : Int))
              (some true)
              (G_spec_l03May n4 n2 b fun b5 =>
                (some (!b5)))))) fun j5 =>
        (cond j5
        (k (1 : Int) (0 : Int) (0 : Int) false false s [n])
        (oK (some (IntKind.wrap IntKind.i64 ((Int.fdiv n4 (256 : Int)) + (Int.tmod (Int.fdiv n1 (256 : Int)) (32 : Int))))) fun j6 =>
          (cond (decide (((IntKind.wrap IntKind.i64 ((IntKind.wrap IntKind.i64 (j6 + (1 : Int))) * (256 : Int))) > (((ByteArray.size s) : Nat) : Int))))
          (k (2 : Int) (0 : Int) (0 : Int) false false s [n])
          (oK (cond (n2 == (2 : Int))
              (some (IntKind.wrap IntKind.i64 (((BitVec.toNat ((BitVec.ofInt 64 (IntKind.wrap IntKind.i64 (((BitVec.toNat ((BitVec.ofInt 64 n4) ||| (BitVec.ofInt 64 (32 : Int)))) : Nat) : Int))) ||| (BitVec.ofInt 64 (64 : Int)))) : Nat) : Int)))
              (some (IntKind.wrap IntKind.i64 (((BitVec.toNat ((BitVec.ofInt 64 n4) ||| (BitVec.ofInt 64 (32 : Int)))) : Nat) : Int)))) fun j7 =>
            (G_spec_SetWord s (IntKind.wrap IntKind.i64 ((IntKind.wrap IntKind.i64 (n * (256 : Int))) + (IntKind.wrap IntKind.i64 ((4 : Int) * (Int.fdiv n1 (8192 : Int)))))) j7 fun s2 =>
            (k (0 : Int) (IntKind.wrap IntKind.i64 ((IntKind.wrap IntKind.i64 (j6 * (256 : Int))) + (Int.tmod n1 (256 : Int)))) j7 true false s2 [n])))))))))))))
theorem ea_e_spec_Walk (N : Nat) (G_spec_SetWord : ∀ {R : Type} (s : ByteArray) (n : Int) (n1 : Int) (k : ByteArray → Option R), Option R) (G_spec_l03May : ∀ {R : Type} (n : Int) (n1 : Int) (b : Bool) (k : Bool → Option R), Option R) (G_spec_l03Entry : ∀ {R : Type} (s : ByteArray) (n : Int) (n1 : Int) (k : Int → Bool → Option R), Option R) (G_spec_l03Acc : ∀ {R : Type} (n : Int) (k : Bool → Option R), Option R) (G_spec_MemFault : ∀ {R : Type} (s : ByteArray) (k : Int → Option R), Option R) {R : Type} (s : ByteArray) (n : Int) (n1 : Int) (n2 : Int) (b : Bool) (K : AV → Hp E → Option R) :
    runFnI (E := E) (OA_spec_Walk N G_spec_SetWord G_spec_l03May G_spec_l03Entry G_spec_l03Acc G_spec_MemFault) (noIt) sl_spec_Walk J_spec_Walk Go.Proofs.Try.f9 [(AV.sc (SV.str s)), (AV.sc (SV.int IntKind.i64 n)), (AV.sc (SV.int IntKind.i64 n1)), (AV.sc (SV.int IntKind.i64 n2)), (AV.sc (SV.bool b))] [] K =
      ga_g_spec_Walk N G_spec_SetWord G_spec_l03May G_spec_l03Entry G_spec_l03Acc G_spec_MemFault s n n1 n2 b (fun n6 n7 n8 b6 b7 s3 l => K (AV.agg [(SV.int IntKind.i64 n6), (SV.int IntKind.i64 n7), (SV.int IntKind.i64 n8), (SV.bool b6), (SV.slc 0 none b7), (SV.str s3)]) [(some (HE.mk false (HB.rows (B.i64 l))))]) := by kernel_rfl
theorem e_spec_Walk (N : Nat) {R : Type} (s : ByteArray) (n : Int) (n1 : Int) (n2 : Int) (b : Bool) (K : AV → Hp E → Option R) :
    runFnI (E := E) (O_spec_Walk N) (noIt) sl_spec_Walk J_spec_Walk Go.Proofs.Try.f9 [(AV.sc (SV.str s)), (AV.sc (SV.int IntKind.i64 n)), (AV.sc (SV.int IntKind.i64 n1)), (AV.sc (SV.int IntKind.i64 n2)), (AV.sc (SV.bool b))] [] K =
      g_spec_Walk N s n n1 n2 b (fun n6 n7 n8 b6 b7 s3 l => K (AV.agg [(SV.int IntKind.i64 n6), (SV.int IntKind.i64 n7), (SV.int IntKind.i64 n8), (SV.bool b6), (SV.slc 0 none b7), (SV.str s3)]) [(some (HE.mk false (HB.rows (B.i64 l))))]) := castPr (by kernel_rfl) (ea_e_spec_Walk N (g_spec_SetWord N) (g_spec_l03May N) (g_spec_l03Entry N) (g_spec_l03Acc N) (g_spec_MemFault N) s n n1 n2 b K)
noncomputable def o_spec_Walk (N : Nat) {R : Type} (args : List AV) (H : Hp E) (K : AV → Hp E → Option R) : Option R :=
  match args, H with
  | [(AV.sc (SV.str s)), (AV.sc (SV.int IntKind.i64 n)), (AV.sc (SV.int IntKind.i64 n1)), (AV.sc (SV.int IntKind.i64 n2)), (AV.sc (SV.bool b))], [] => g_spec_Walk N s n n1 n2 b (fun n6 n7 n8 b6 b7 s3 l => K (AV.agg [(SV.int IntKind.i64 n6), (SV.int IntKind.i64 n7), (SV.int IntKind.i64 n8), (SV.bool b6), (SV.slc 0 none b7), (SV.str s3)]) [(some (HE.mk false (HB.rows (B.i64 l))))])
  | _, _ => none
theorem o_spec_Walk_ok (N : Nat) : FnOk E 9 (o_spec_Walk N) := by
  intro R args H K r h
  unfold o_spec_Walk at h
  dsimp only at h
  split at h
  · exact fnB_ok (ids := []) (top := []) ok (O_spec_Walk_ok N) (jn_ok _ _ _) Go.Proofs.Try.func9 (by kernel_rfl) (IT := noIt) (sl := sl_spec_Walk) (J := J_spec_Walk) (K := K) (H := []) (noIt_ok) (by kernel_rfl) rfl ((e_spec_Walk N _ _ _ _ _ K).trans h)
  · cases h
/-! ### loop.example/g00038/laws.FnWalked -/
abbrev sl_laws_FnWalked_r : SlotT := [(0, ([3, 4, 5, 6, 7, 8, 10, 11], [2, 4, 5, 6, 7, 8, 10]))]
abbrev J_laws_FnWalked_r : JT := jn [(6, [(54, .b)]), (8, [(62, .b)]), (9, [(2, .b)]), (16, [(104, .b)]), (19, [(2, .b)])] [] []
noncomputable def O_laws_FnWalked_r (N : Nat) : Orc E := addFn 9 (o_spec_Walk N) (addFn 8 (o_impl_Walk N) (addFn 7 (o_spec_DrawWalk_r N) (noFn)))
noncomputable def pa_laws_FnWalked_r__o_spec_Walk (N : Nat) (G_spec_Walk : ∀ {R : Type} (s : ByteArray) (n : Int) (n1 : Int) (n2 : Int) (b : Bool) (k : Int → Int → Int → Bool → Bool → ByteArray → (List Int) → Option R), Option R) {R : Type} (args : List AV) (H : Hp E) (K : AV → Hp E → Option R) : Option R :=
  match args, H with
  | [(AV.sc (SV.str s)), (AV.sc (SV.int IntKind.i64 n)), (AV.sc (SV.int IntKind.i64 n1)), (AV.sc (SV.int IntKind.i64 n2)), (AV.sc (SV.bool b))], [] => G_spec_Walk s n n1 n2 b (fun n6 n7 n8 b6 b7 s3 l => K (AV.agg [(SV.int IntKind.i64 n6), (SV.int IntKind.i64 n7), (SV.int IntKind.i64 n8), (SV.bool b6), (SV.slc 0 none b7), (SV.str s3)]) [(some (HE.mk false (HB.rows (B.i64 l))))])
  | _, _ => none
noncomputable def pa_laws_FnWalked_r__o_impl_Walk (N : Nat) (G_impl_Walk : ∀ {R : Type} (s : ByteArray) (n : Int) (n1 : Int) (n2 : Int) (b : Bool) (k : Int → Int → Int → Bool → Bool → ByteArray → (List Int) → Option R), Option R) {R : Type} (args : List AV) (H : Hp E) (K : AV → Hp E → Option R) : Option R :=
  match args, H with
  | [(AV.sc (SV.str s)), (AV.sc (SV.int IntKind.i64 n)), (AV.sc (SV.int IntKind.i64 n1)), (AV.sc (SV.int IntKind.i64 n2)), (AV.sc (SV.bool b))], [] => G_impl_Walk s n n1 n2 b (fun n11 n12 n13 b4 b5 s1 l1 => K (AV.agg [(SV.int IntKind.i64 n11), (SV.int IntKind.i64 n12), (SV.int IntKind.i64 n13), (SV.bool b4), (SV.slc 0 none b5), (SV.str s1)]) [(some (HE.mk false (HB.rows (B.i64 l1))))])
  | _, _ => none
noncomputable def pa_laws_FnWalked_r__o_spec_DrawWalk_r (N : Nat) (G_spec_DrawWalk_r : ∀ {R : Type} (b : Bool) (l : List Int) (k : ByteArray → Int → Int → Int → Bool → Option R), Option R) {R : Type} (args : List AV) (H : Hp E) (K : AV → Hp E → Option R) : Option R :=
  match args, H with
  | [(AV.sc (SV.slc 0 none b))], [(some (HE.mk true (HB.rows (B.u8 l))))] => G_spec_DrawWalk_r b l (fun s2 n53 n54 n55 b12 => K (AV.tup [(false, [(SV.str s2)]), (false, [(SV.int IntKind.i64 n53)]), (false, [(SV.int IntKind.i64 n54)]), (false, [(SV.int IntKind.i64 n55)]), (false, [(SV.bool b12)])]) [(some (HE.mk true (HB.rows (B.u8 l))))])
  | _, _ => none
noncomputable def OA_laws_FnWalked_r (N : Nat) (G_spec_Walk : ∀ {R : Type} (s : ByteArray) (n : Int) (n1 : Int) (n2 : Int) (b : Bool) (k : Int → Int → Int → Bool → Bool → ByteArray → (List Int) → Option R), Option R) (G_impl_Walk : ∀ {R : Type} (s : ByteArray) (n : Int) (n1 : Int) (n2 : Int) (b : Bool) (k : Int → Int → Int → Bool → Bool → ByteArray → (List Int) → Option R), Option R) (G_spec_DrawWalk_r : ∀ {R : Type} (b : Bool) (l : List Int) (k : ByteArray → Int → Int → Int → Bool → Option R), Option R) : Orc E := addFn 9 (pa_laws_FnWalked_r__o_spec_Walk N G_spec_Walk) (addFn 8 (pa_laws_FnWalked_r__o_impl_Walk N G_impl_Walk) (addFn 7 (pa_laws_FnWalked_r__o_spec_DrawWalk_r N G_spec_DrawWalk_r) (noFn)))
theorem O_laws_FnWalked_r_ok (N : Nat) : OrcOk (O_laws_FnWalked_r N) := addFn_ok (o_spec_Walk_ok N) (addFn_ok (o_impl_Walk_ok N) (addFn_ok (o_spec_DrawWalk_r_ok N) (noFn_ok)))
noncomputable def s_laws_FnWalked_r_0 (N : Nat) {R : Type} (s3 : ByteArray) (n9 : Int) (n10 : Int) (n11 : Int) (b6 : Bool) (l3 : List Int) (n14 : Int) (n15 : Int) (n16 : Int) (b7 : Bool) (b8 : Bool) (s4 : ByteArray) (l4 : List Int) (n12 : Int) (n13 : Int) (ag : Int → Int → Option R)  (kR : Int → Option R) (kN : Int → Option R) : Option R :=
  (cond (decide ((n13 < (((ByteArray.size s3) : Nat) : Int))))
  (cond ((decide (((0 : Int) ≤ n13))) && (decide ((n13 < (((ByteArray.size s3) : Nat) : Int)))))
    (cond ((decide (((0 : Int) ≤ n13))) && (decide ((n13 < (((ByteArray.size s4) : Nat) : Int)))))
      (cond ((Go.Eng.bt s3 (Int.toNat n13)) != (Go.Eng.bt s4 (Int.toNat n13)))
        (oK (cond ((Int.tmod n13 (4 : Int)) != (0 : Int))
            (some true)
            (cond ((decide (((0 : Int) ≤ n13))) && (decide ((n13 < (((ByteArray.size s3) : Nat) : Int)))))
              (cond ((decide (((0 : Int) ≤ n13))) && (decide ((n13 < (((ByteArray.size s4) : Nat) : Int)))))
                (some ((IntKind.wrap IntKind.u8 (((BitVec.toNat ((BitVec.ofInt 8 (IntKind.wrap IntKind.u8 (((BitVec.toNat ((BitVec.ofInt 8 (Go.Eng.bt s3 (Int.toNat n13))) ||| (BitVec.ofInt 8 (32 : Int)))) : Nat) : Int))) ||| (BitVec.ofInt 8 (64 : Int)))) : Nat) : Int)) != (IntKind.wrap IntKind.u8 (((BitVec.toNat ((BitVec.ofInt 8 (IntKind.wrap IntKind.u8 (((BitVec.toNat ((BitVec.ofInt 8 (Go.Eng.bt s4 (Int.toNat n13))) ||| (BitVec.ofInt 8 (32 : Int)))) : Nat) : Int))) ||| (BitVec.ofInt 8 (64 : Int)))) : Nat) : Int))))
                none)
              none)) fun j3 =>
          (cond j3
          (kR (IntKind.wrap IntKind.i64 (n12 + (1 : Int))))
          (ag (IntKind.wrap IntKind.i64 (n12 + (1 : Int))) (IntKind.wrap IntKind.i64 (n13 + (1 : Int))))))
        (ag n12 (IntKind.wrap IntKind.i64 (n13 + (1 : Int)))))
      none)
    none)
  (kN n12))
noncomputable def ga_s_laws_FnWalked_r_0 (N : Nat) (G_spec_Walk : ∀ {R : Type} (s : ByteArray) (n : Int) (n1 : Int) (n2 : Int) (b : Bool) (k : Int → Int → Int → Bool → Bool → ByteArray → (List Int) → Option R), Option R) (G_impl_Walk : ∀ {R : Type} (s : ByteArray) (n : Int) (n1 : Int) (n2 : Int) (b : Bool) (k : Int → Int → Int → Bool → Bool → ByteArray → (List Int) → Option R), Option R) (G_spec_DrawWalk_r : ∀ {R : Type} (b : Bool) (l : List Int) (k : ByteArray → Int → Int → Int → Bool → Option R), Option R) {R : Type} (s3 : ByteArray) (n9 : Int) (n10 : Int) (n11 : Int) (b6 : Bool) (l3 : List Int) (n14 : Int) (n15 : Int) (n16 : Int) (b7 : Bool) (b8 : Bool) (s4 : ByteArray) (l4 : List Int) (n12 : Int) (n13 : Int) (ag : Int → Int → Option R)  (kR : Int → Option R) (kN : Int → Option R) : Option R :=
  (cond (decide ((n13 < (((ByteArray.size s3) : Nat) : Int))))
  (cond ((decide (((0 : Int) ≤ n13))) && (decide ((n13 < (((ByteArray.size s3) : Nat) : Int)))))
    (cond ((decide (((0 : Int) ≤ n13))) && (decide ((n13 < (((ByteArray.size s4) : Nat) : Int)))))
      (cond ((Go.Eng.bt s3 (Int.toNat n13)) != (Go.Eng.bt s4 (Int.toNat n13)))
        (oK (cond ((Int.tmod n13 (4 : Int)) != (0 : Int))
            (some true)
            (cond ((decide (((0 : Int) ≤ n13))) && (decide ((n13 < (((ByteArray.size s3) : Nat) : Int)))))
              (cond ((decide (((0 : Int) ≤ n13))) && (decide ((n13 < (((ByteArray.size s4) : Nat) : Int)))))
                (some ((IntKind.wrap IntKind.u8 (((BitVec.toNat ((BitVec.ofInt 8 (IntKind.wrap IntKind.u8 (((BitVec.toNat ((BitVec.ofInt 8 (Go.Eng.bt s3 (Int.toNat n13))) ||| (BitVec.ofInt 8 (32 : Int)))) : Nat) : Int))) ||| (BitVec.ofInt 8 (64 : Int)))) : Nat) : Int)) != (IntKind.wrap IntKind.u8 (((BitVec.toNat ((BitVec.ofInt 8 (IntKind.wrap IntKind.u8 (((BitVec.toNat ((BitVec.ofInt 8 (Go.Eng.bt s4 (Int.toNat n13))) ||| (BitVec.ofInt 8 (32 : Int)))) : Nat) : Int))) ||| (BitVec.ofInt 8 (64 : Int)))) : Nat) : Int))))
                none)
              none)) fun j3 =>
          (cond j3
          (kR (IntKind.wrap IntKind.i64 (n12 + (1 : Int))))
          (ag (IntKind.wrap IntKind.i64 (n12 + (1 : Int))) (IntKind.wrap IntKind.i64 (n13 + (1 : Int))))))
        (ag n12 (IntKind.wrap IntKind.i64 (n13 + (1 : Int)))))
      none)
    none)
  (kN n12))
noncomputable def l_laws_FnWalked_r_0 (N : Nat) {R : Type} (s3 : ByteArray) (n9 : Int) (n10 : Int) (n11 : Int) (b6 : Bool) (l3 : List Int) (n14 : Int) (n15 : Int) (n16 : Int) (b7 : Bool) (b8 : Bool) (s4 : ByteArray) (l4 : List Int) (kR : Int → Option R) (kN : Int → Option R) : Nat → Int → Int → Option R
  | 0, _, _ => none
  | f + 1, n12, n13 => s_laws_FnWalked_r_0 N s3 n9 n10 n11 b6 l3 n14 n15 n16 b7 b8 s4 l4 n12 n13 (fun n12 n13 => l_laws_FnWalked_r_0 N s3 n9 n10 n11 b6 l3 n14 n15 n16 b7 b8 s4 l4 kR kN f n12 n13)  kR kN
noncomputable def c_laws_FnWalked_r_0 (N : Nat) {R : Type} (s3 : ByteArray) (n9 : Int) (n10 : Int) (n11 : Int) (b6 : Bool) (l3 : List Int) (n14 : Int) (n15 : Int) (n16 : Int) (b7 : Bool) (b8 : Bool) (s4 : ByteArray) (l4 : List Int) (n12 : Int) (n13 : Int) (kR : Int → Option R) (kN : Int → Option R) : Option R := l_laws_FnWalked_r_0 N s3 n9 n10 n11 b6 l3 n14 n15 n16 b7 b8 s4 l4 kR kN N n12 n13
theorem ea_se_laws_FnWalked_r_0 (N : Nat) (G_spec_Walk : ∀ {R : Type} (s : ByteArray) (n : Int) (n1 : Int) (n2 : Int) (b : Bool) (k : Int → Int → Int → Bool → Bool → ByteArray → (List Int) → Option R), Option R) (G_impl_Walk : ∀ {R : Type} (s : ByteArray) (n : Int) (n1 : Int) (n2 : Int) (b : Bool) (k : Int → Int → Int → Bool → Bool → ByteArray → (List Int) → Option R), Option R) (G_spec_DrawWalk_r : ∀ {R : Type} (b : Bool) (l : List Int) (k : ByteArray → Int → Int → Int → Bool → Option R), Option R) {R : Type} (s3 : ByteArray) (n9 : Int) (n10 : Int) (n11 : Int) (b6 : Bool) (l3 : List Int) (n14 : Int) (n15 : Int) (n16 : Int) (b7 : Bool) (b8 : Bool) (s4 : ByteArray) (l4 : List Int) (n12 : Int) (n13 : Int) (AG : List (Option AV) → Hp E → Option R) (KL : Ex → List (Option AV) → Hp E → Option R) :
    iterStep (E := E) (OA_laws_FnWalked_r N G_spec_Walk G_impl_Walk G_spec_DrawWalk_r) (fun {R} => LI (noIt) 1 133 sl_laws_FnWalked_r (R := R)) J_laws_FnWalked_r 1 133 0 [3, 4, 5, 6, 7, 8, 10, 11] [2, 4, 5, 6, 7, 8, 10] (body Go.Proofs.Try.f3 0) AG KL [(some (AV.sc (SV.str s3))), (some (AV.sc (SV.int IntKind.i64 n9))), (some (AV.sc (SV.int IntKind.i64 n10))), (some (AV.sc (SV.int IntKind.i64 n11))), (some (AV.sc (SV.bool b6))), (some (AV.sc (SV.ptr 1 0 0))), (some (AV.sc (SV.int IntKind.i64 n12))), (some (AV.sc (SV.int IntKind.i64 n13)))] [(some (HE.mk true (HB.rows (B.u8 l3)))), (some (HE.mk false (HB.exp none [(SV.int IntKind.i64 n14), (SV.int IntKind.i64 n15), (SV.int IntKind.i64 n16), (SV.bool b7), (SV.slc 2 none b8), (SV.str s4)]))), (some (HE.mk false (HB.rows (B.i64 l4))))] =
      ga_s_laws_FnWalked_r_0 N G_spec_Walk G_impl_Walk G_spec_DrawWalk_r s3 n9 n10 n11 b6 l3 n14 n15 n16 b7 b8 s4 l4 n12 n13 (fun n12 n13 => AG [(some (AV.sc (SV.str s3))), (some (AV.sc (SV.int IntKind.i64 n9))), (some (AV.sc (SV.int IntKind.i64 n10))), (some (AV.sc (SV.int IntKind.i64 n11))), (some (AV.sc (SV.bool b6))), (some (AV.sc (SV.ptr 1 0 0))), (some (AV.sc (SV.int IntKind.i64 n12))), (some (AV.sc (SV.int IntKind.i64 n13)))] [(some (HE.mk true (HB.rows (B.u8 l3)))), (some (HE.mk false (HB.exp none [(SV.int IntKind.i64 n14), (SV.int IntKind.i64 n15), (SV.int IntKind.i64 n16), (SV.bool b7), (SV.slc 2 none b8), (SV.str s4)]))), (some (HE.mk false (HB.rows (B.i64 l4))))])  (fun n22 => KL Ex.ret [(some (AV.sc (SV.bool false))), (some (AV.sc (SV.int IntKind.i64 n9))), (some (AV.sc (SV.int IntKind.i64 n10))), (some (AV.sc (SV.int IntKind.i64 n11))), (some (AV.sc (SV.bool b6))), (some (AV.sc (SV.ptr 1 0 0))), (some (AV.sc (SV.int IntKind.i64 n22)))] [(some (HE.mk true (HB.rows (B.u8 l3)))), (some (HE.mk false (HB.exp none [(SV.int IntKind.i64 n14), (SV.int IntKind.i64 n15), (SV.int IntKind.i64 n16), (SV.bool b7), (SV.slc 2 none b8), (SV.str s4)]))), (some (HE.mk false (HB.rows (B.i64 l4))))]) (fun n23 => KL Ex.normal [none, (some (AV.sc (SV.int IntKind.i64 n9))), (some (AV.sc (SV.int IntKind.i64 n10))), (some (AV.sc (SV.int IntKind.i64 n11))), (some (AV.sc (SV.bool b6))), (some (AV.sc (SV.ptr 1 0 0))), (some (AV.sc (SV.int IntKind.i64 n23)))] [(some (HE.mk true (HB.rows (B.u8 l3)))), (some (HE.mk false (HB.exp none [(SV.int IntKind.i64 n14), (SV.int IntKind.i64 n15), (SV.int IntKind.i64 n16), (SV.bool b7), (SV.slc 2 none b8), (SV.str s4)]))), (some (HE.mk false (HB.rows (B.i64 l4))))]) := by kernel_rfl
theorem se_laws_FnWalked_r_0 (N : Nat) {R : Type} (s3 : ByteArray) (n9 : Int) (n10 : Int) (n11 : Int) (b6 : Bool) (l3 : List Int) (n14 : Int) (n15 : Int) (n16 : Int) (b7 : Bool) (b8 : Bool) (s4 : ByteArray) (l4 : List Int) (n12 : Int) (n13 : Int) (AG : List (Option AV) → Hp E → Option R) (KL : Ex → List (Option AV) → Hp E → Option R) :
    iterStep (E := E) (O_laws_FnWalked_r N) (fun {R} => LI (noIt) 1 133 sl_laws_FnWalked_r (R := R)) J_laws_FnWalked_r 1 133 0 [3, 4, 5, 6, 7, 8, 10, 11] [2, 4, 5, 6, 7, 8, 10] (body Go.Proofs.Try.f3 0) AG KL [(some (AV.sc (SV.str s3))), (some (AV.sc (SV.int IntKind.i64 n9))), (some (AV.sc (SV.int IntKind.i64 n10))), (some (AV.sc (SV.int IntKind.i64 n11))), (some (AV.sc (SV.bool b6))), (some (AV.sc (SV.ptr 1 0 0))), (some (AV.sc (SV.int IntKind.i64 n12))), (some (AV.sc (SV.int IntKind.i64 n13)))] [(some (HE.mk true (HB.rows (B.u8 l3)))), (some (HE.mk false (HB.exp none [(SV.int IntKind.i64 n14), (SV.int IntKind.i64 n15), (SV.int IntKind.i64 n16), (SV.bool b7), (SV.slc 2 none b8), (SV.str s4)]))), (some (HE.mk false (HB.rows (B.i64 l4))))] =
      s_laws_FnWalked_r_0 N s3 n9 n10 n11 b6 l3 n14 n15 n16 b7 b8 s4 l4 n12 n13 (fun n12 n13 => AG [(some (AV.sc (SV.str s3))), (some (AV.sc (SV.int IntKind.i64 n9))), (some (AV.sc (SV.int IntKind.i64 n10))), (some (AV.sc (SV.int IntKind.i64 n11))), (some (AV.sc (SV.bool b6))), (some (AV.sc (SV.ptr 1 0 0))), (some (AV.sc (SV.int IntKind.i64 n12))), (some (AV.sc (SV.int IntKind.i64 n13)))] [(some (HE.mk true (HB.rows (B.u8 l3)))), (some (HE.mk false (HB.exp none [(SV.int IntKind.i64 n14), (SV.int IntKind.i64 n15), (SV.int IntKind.i64 n16), (SV.bool b7), (SV.slc 2 none b8), (SV.str s4)]))), (some (HE.mk false (HB.rows (B.i64 l4))))])  (fun n22 => KL Ex.ret [(some (AV.sc (SV.bool false))), (some (AV.sc (SV.int IntKind.i64 n9))), (some (AV.sc (SV.int IntKind.i64 n10))), (some (AV.sc (SV.int IntKind.i64 n11))), (some (AV.sc (SV.bool b6))), (some (AV.sc (SV.ptr 1 0 0))), (some (AV.sc (SV.int IntKind.i64 n22)))] [(some (HE.mk true (HB.rows (B.u8 l3)))), (some (HE.mk false (HB.exp none [(SV.int IntKind.i64 n14), (SV.int IntKind.i64 n15), (SV.int IntKind.i64 n16), (SV.bool b7), (SV.slc 2 none b8), (SV.str s4)]))), (some (HE.mk false (HB.rows (B.i64 l4))))]) (fun n23 => KL Ex.normal [none, (some (AV.sc (SV.int IntKind.i64 n9))), (some (AV.sc (SV.int IntKind.i64 n10))), (some (AV.sc (SV.int IntKind.i64 n11))), (some (AV.sc (SV.bool b6))), (some (AV.sc (SV.ptr 1 0 0))), (some (AV.sc (SV.int IntKind.i64 n23)))] [(some (HE.mk true (HB.rows (B.u8 l3)))), (some (HE.mk false (HB.exp none [(SV.int IntKind.i64 n14), (SV.int IntKind.i64 n15), (SV.int IntKind.i64 n16), (SV.bool b7), (SV.slc 2 none b8), (SV.str s4)]))), (some (HE.mk false (HB.rows (B.i64 l4))))]) := castPr (by kernel_rfl) (ea_se_laws_FnWalked_r_0 N (g_spec_Walk N) (g_impl_Walk N) (g_spec_DrawWalk_r N) s3 n9 n10 n11 b6 l3 n14 n15 n16 b7 b8 s4 l4 n12 n13 AG KL)
theorem le_laws_FnWalked_r_0 (N : Nat) {R : Type} (s3 : ByteArray) (n9 : Int) (n10 : Int) (n11 : Int) (b6 : Bool) (l3 : List Int) (n14 : Int) (n15 : Int) (n16 : Int) (b7 : Bool) (b8 : Bool) (s4 : ByteArray) (l4 : List Int) (KL : Ex → List (Option AV) → Hp E → Option R) : ∀ (f : Nat), ∀ (n12 : Int) (n13 : Int), iterK (E := E) (O_laws_FnWalked_r N) (fun {R} => LI (noIt) 1 133 sl_laws_FnWalked_r (R := R)) J_laws_FnWalked_r 1 133 0 [3, 4, 5, 6, 7, 8, 10, 11] [2, 4, 5, 6, 7, 8, 10] (body Go.Proofs.Try.f3 0) f [(some (AV.sc (SV.str s3))), (some (AV.sc (SV.int IntKind.i64 n9))), (some (AV.sc (SV.int IntKind.i64 n10))), (some (AV.sc (SV.int IntKind.i64 n11))), (some (AV.sc (SV.bool b6))), (some (AV.sc (SV.ptr 1 0 0))), (some (AV.sc (SV.int IntKind.i64 n12))), (some (AV.sc (SV.int IntKind.i64 n13)))] [(some (HE.mk true (HB.rows (B.u8 l3)))), (some (HE.mk false (HB.exp none [(SV.int IntKind.i64 n14), (SV.int IntKind.i64 n15), (SV.int IntKind.i64 n16), (SV.bool b7), (SV.slc 2 none b8), (SV.str s4)]))), (some (HE.mk false (HB.rows (B.i64 l4))))] KL = l_laws_FnWalked_r_0 N s3 n9 n10 n11 b6 l3 n14 n15 n16 b7 b8 s4 l4 (fun n22 => KL Ex.ret [(some (AV.sc (SV.bool false))), (some (AV.sc (SV.int IntKind.i64 n9))), (some (AV.sc (SV.int IntKind.i64 n10))), (some (AV.sc (SV.int IntKind.i64 n11))), (some (AV.sc (SV.bool b6))), (some (AV.sc (SV.ptr 1 0 0))), (some (AV.sc (SV.int IntKind.i64 n22)))] [(some (HE.mk true (HB.rows (B.u8 l3)))), (some (HE.mk false (HB.exp none [(SV.int IntKind.i64 n14), (SV.int IntKind.i64 n15), (SV.int IntKind.i64 n16), (SV.bool b7), (SV.slc 2 none b8), (SV.str s4)]))), (some (HE.mk false (HB.rows (B.i64 l4))))]) (fun n23 => KL Ex.normal [none, (some (AV.sc (SV.int IntKind.i64 n9))), (some (AV.sc (SV.int IntKind.i64 n10))), (some (AV.sc (SV.int IntKind.i64 n11))), (some (AV.sc (SV.bool b6))), (some (AV.sc (SV.ptr 1 0 0))), (some (AV.sc (SV.int IntKind.i64 n23)))] [(some (HE.mk true (HB.rows (B.u8 l3)))), (some (HE.mk false (HB.exp none [(SV.int IntKind.i64 n14), (SV.int IntKind.i64 n15), (SV.int IntKind.i64 n16), (SV.bool b7), (SV.slc 2 none b8), (SV.str s4)]))), (some (HE.mk false (HB.rows (B.i64 l4))))]) f n12 n13 := by
  intro f
  induction f with
  | zero => intros; rfl
  | succ f ih =>
    intro n12 n13
    rw [iterK_succ, se_laws_FnWalked_r_0]
    exact (congrArg (fun z0 => s_laws_FnWalked_r_0 N s3 n9 n10 n11 b6 l3 n14 n15 n16 b7 b8 s4 l4 n12 n13 z0 (fun n22 => KL Ex.ret [(some (AV.sc (SV.bool false))), (some (AV.sc (SV.int IntKind.i64 n9))), (some (AV.sc (SV.int IntKind.i64 n10))), (some (AV.sc (SV.int IntKind.i64 n11))), (some (AV.sc (SV.bool b6))), (some (AV.sc (SV.ptr 1 0 0))), (some (AV.sc (SV.int IntKind.i64 n22)))] [(some (HE.mk true (HB.rows (B.u8 l3)))), (some (HE.mk false (HB.exp none [(SV.int IntKind.i64 n14), (SV.int IntKind.i64 n15), (SV.int IntKind.i64 n16), (SV.bool b7), (SV.slc 2 none b8), (SV.str s4)]))), (some (HE.mk false (HB.rows (B.i64 l4))))]) (fun n23 => KL Ex.normal [none, (some (AV.sc (SV.int IntKind.i64 n9))), (some (AV.sc (SV.int IntKind.i64 n10))), (some (AV.sc (SV.int IntKind.i64 n11))), (some (AV.sc (SV.bool b6))), (some (AV.sc (SV.ptr 1 0 0))), (some (AV.sc (SV.int IntKind.i64 n23)))] [(some (HE.mk true (HB.rows (B.u8 l3)))), (some (HE.mk false (HB.exp none [(SV.int IntKind.i64 n14), (SV.int IntKind.i64 n15), (SV.int IntKind.i64 n16), (SV.bool b7), (SV.slc 2 none b8), (SV.str s4)]))), (some (HE.mk false (HB.rows (B.i64 l4))))])) (funext fun n12 => funext fun n13 => ih n12 n13))
noncomputable def i_laws_FnWalked_r_0 (N : Nat) {R : Type} (vs : List (Option AV)) (H : Hp E) (KL : Ex → List (Option AV) → Hp E → Option R) : Option R :=
  match vs, H with
  | [(some (AV.sc (SV.str s3))), (some (AV.sc (SV.int IntKind.i64 n9))), (some (AV.sc (SV.int IntKind.i64 n10))), (some (AV.sc (SV.int IntKind.i64 n11))), (some (AV.sc (SV.bool b6))), (some (AV.sc (SV.ptr 1 0 0))), (some (AV.sc (SV.int IntKind.i64 n12))), (some (AV.sc (SV.int IntKind.i64 n13)))], [(some (HE.mk true (HB.rows (B.u8 l3)))), (some (HE.mk false (HB.exp none [(SV.int IntKind.i64 n14), (SV.int IntKind.i64 n15), (SV.int IntKind.i64 n16), (SV.bool b7), (SV.slc 2 none b8), (SV.str s4)]))), (some (HE.mk false (HB.rows (B.i64 l4))))] => c_laws_FnWalked_r_0 N s3 n9 n10 n11 b6 l3 n14 n15 n16 b7 b8 s4 l4 n12 n13 (fun n24 => KL Ex.ret [(some (AV.sc (SV.bool false))), (some (AV.sc (SV.int IntKind.i64 n9))), (some (AV.sc (SV.int IntKind.i64 n10))), (some (AV.sc (SV.int IntKind.i64 n11))), (some (AV.sc (SV.bool b6))), (some (AV.sc (SV.ptr 1 0 0))), (some (AV.sc (SV.int IntKind.i64 n24)))] [(some (HE.mk true (HB.rows (B.u8 l3)))), (some (HE.mk false (HB.exp none [(SV.int IntKind.i64 n14), (SV.int IntKind.i64 n15), (SV.int IntKind.i64 n16), (SV.bool b7), (SV.slc 2 none b8), (SV.str s4)]))), (some (HE.mk false (HB.rows (B.i64 l4))))]) (fun n25 => KL Ex.normal [none, (some (AV.sc (SV.int IntKind.i64 n9))), (some (AV.sc (SV.int IntKind.i64 n10))), (some (AV.sc (SV.int IntKind.i64 n11))), (some (AV.sc (SV.bool b6))), (some (AV.sc (SV.ptr 1 0 0))), (some (AV.sc (SV.int IntKind.i64 n25)))] [(some (HE.mk true (HB.rows (B.u8 l3)))), (some (HE.mk false (HB.exp none [(SV.int IntKind.i64 n14), (SV.int IntKind.i64 n15), (SV.int IntKind.i64 n16), (SV.bool b7), (SV.slc 2 none b8), (SV.str s4)]))), (some (HE.mk false (HB.rows (B.i64 l4))))])
  | _, _ => none
noncomputable def IT_laws_FnWalked_r_0 (N : Nat) : Its E := addIt 0 (i_laws_FnWalked_r_0 N) (noIt)
theorem IT_laws_FnWalked_r_0_ok (N : Nat) : ItOk (IT_laws_FnWalked_r_0 N) 1 133 sl_laws_FnWalked_r (lsB Go.Proofs.Try.f3 [0]) :=
  addItB_ok (inner := []) ok (O_laws_FnWalked_r_ok N) (jn_ok _ _ _) (noIt_ok) rfl (by kernel_rfl) rfl fun vs H KL r h => by
    unfold i_laws_FnWalked_r_0 at h
    split at h
    · exact ⟨_, (le_laws_FnWalked_r_0 N _ _ _ _ _ _ _ _ _ _ _ _ _ KL N _ _).trans h⟩
    · cases h
noncomputable def g_laws_FnWalked_r (N : Nat) {R : Type} (b : Bool) (l : List Int) (k : Bool → Option R) : Option R :=
  (cond (decide (((((List.length l) : Nat) : Int) > (1048576 : Int))))
  (k true)
  (g_spec_DrawWalk_r N b l fun s n n1 n2 b1 =>
    (g_impl_Walk N s n n1 n2 b1 fun n3 n4 n5 b2 b3 s1 l1 =>
    (g_spec_Walk N s n n1 n2 b1 fun n6 n7 n8 b4 b5 s2 l2 =>
    (oK (cond (n3 != n6)
      (some true)
      (cond (n4 != n7)
        (some true)
        (some (!(decide ((s1 = s2))))))) fun j =>
    (cond j
    (k false)
    (oK (cond (n3 != (0 : Int))
        (some true)
        (some (decide ((s1 = (ByteArray.mk (List.toArray []))))))) fun j1 =>
      (cond j1
      (oK (cond (decide ((s1 = (ByteArray.mk (List.toArray [])))))
          (some true)
          (some (decide ((s1 = s))))) fun j2 =>
        (k j2))
      (c_laws_FnWalked_r_0 N s n n1 n2 b1 l n3 n4 n5 b2 b3 s1 l1 (0 : Int) (0 : Int) (fun n17 =>
        (k false)) (fun n18 =>
        (g_impl_Walk N s1 n n1 n2 b1 fun n19 n20 n21 b9 b10 s5 l5 =>
        (oK (cond (decide ((n18 ≤ (1 : Int))))
          (cond (n19 == (0 : Int))
            (cond (n20 == n4)
              (some (decide ((s5 = s1))))
              (some false))
            (some false))
          (some false)) fun j4 =>
        (k j4)))))))))))))
noncomputable def ga_g_laws_FnWalked_r (N : Nat) (G_spec_Walk : ∀ {R : Type} (s : ByteArray) (n : Int) (n1 : Int) (n2 : Int) (b : Bool) (k : Int → Int → Int → Bool → Bool → ByteArray → (List Int) → Option R), Option R) (G_impl_Walk : ∀ {R : Type} (s : ByteArray) (n : Int) (n1 : Int) (n2 : Int) (b : Bool) (k : Int → Int → Int → Bool → Bool → ByteArray → (List Int) → Option R), Option R) (G_spec_DrawWalk_r : ∀ {R : Type} (b : Bool) (l : List Int) (k : ByteArray → Int → Int → Int → Bool → Option R), Option R) {R : Type} (b : Bool) (l : List Int) (k : Bool → Option R) : Option R :=
  (cond (decide (((((List.length l) : Nat) : Int) > (1048576 : Int))))
  (k true)
  (G_spec_DrawWalk_r b l fun s n n1 n2 b1 =>
    (G_impl_Walk s n n1 n2 b1 fun n3 n4 n5 b2 b3 s1 l1 =>
    (G_spec_Walk s n n1 n2 b1 fun n6 n7 n8 b4 b5 s2 l2 =>
    (oK (cond (n3 != n6)
      (some true)
      (cond (n4 != n7)
        (some true)
        (some (!(decide ((s1 = s2))))))) fun j =>
    (cond j
    (k false)
    (oK (cond (n3 != (0 : Int))
        (some true)
        (some (decide ((s1 = (ByteArray.mk (List.toArray []))))))) fun j1 =>
      (cond j1
      (oK (cond (decide ((s1 = (ByteArray.mk (List.toArray [])))))
          (some true)
          (some (decide ((s1 = s))))) fun j2 =>
        (k j2))
      (c_laws_FnWalked_r_0 N s n n1 n2 b1 l n3 n4 n5 b2 b3 s1 l1 (0 : Int) (0 : Int) (fun n17 =>
        (k false)) (fun n18 =>
        (G_impl_Walk s1 n n1 n2 b1 fun n19 n20 n21 b9 b10 s5 l5 =>
        (oK (cond (decide ((n18 ≤ (1 : Int))))
          (cond (n19 == (0 : Int))
            (cond (n20 == n4)
              (some (decide ((s5 = s1))))
              (some false))
            (some false))
          (some false)) fun j4 =>
        (k j4)))))))))))))
theorem ea_e_laws_FnWalked_r (N : Nat) (G_spec_Walk : ∀ {R : Type} (s : ByteArray) (n : Int) (n1 : Int) (n2 : Int) (b : Bool) (k : Int → Int → Int → Bool → Bool → ByteArray → (List Int) → Option R), Option R) (G_impl_Walk : ∀ {R : Type} (s : ByteArray) (n : Int) (n1 : Int) (n2 : Int) (b : Bool) (k : Int → Int → Int → Bool → Bool → ByteArray → (List Int) → Option R), Option R) (G_spec_DrawWalk_r : ∀ {R : Type} (b : Bool) (l : List Int) (k : ByteArray → Int → Int → Int → Bool → Option R), Option R) {R : Type} (b : Bool) (l : List Int) (K : AV → Hp E → Option R) :
    runFnI (E := E) (OA_laws_FnWalked_r N G_spec_Walk G_impl_Walk G_spec_DrawWalk_r) (IT_laws_FnWalked_r_0 N) sl_laws_FnWalked_r J_laws_FnWalked_r Go.Proofs.Try.f3 [(AV.sc (SV.slc 0 none b))] [(some (HE.mk true (HB.rows (B.u8 l))))] K =
      ga_g_laws_FnWalked_r N G_spec_Walk G_impl_Walk G_spec_DrawWalk_r b l (fun b11 => K (AV.sc (SV.bool b11)) [(some (HE.mk true (HB.rows (B.u8 l))))]) := by kernel_rfl
theorem e_laws_FnWalked_r (N : Nat) {R : Type} (b : Bool) (l : List Int) (K : AV → Hp E → Option R) :
    runFnI (E := E) (O_laws_FnWalked_r N) (IT_laws_FnWalked_r_0 N) sl_laws_FnWalked_r J_laws_FnWalked_r Go.Proofs.Try.f3 [(AV.sc (SV.slc 0 none b))] [(some (HE.mk true (HB.rows (B.u8 l))))] K =
      g_laws_FnWalked_r N b l (fun b11 => K (AV.sc (SV.bool b11)) [(some (HE.mk true (HB.rows (B.u8 l))))]) := castPr (by kernel_rfl) (ea_e_laws_FnWalked_r N (g_spec_Walk N) (g_impl_Walk N) (g_spec_DrawWalk_r N) b l K)
noncomputable def o_laws_FnWalked_r (N : Nat) {R : Type} (args : List AV) (H : Hp E) (K : AV → Hp E → Option R) : Option R :=
  match args, H with
  | [(AV.sc (SV.slc 0 none b))], [(some (HE.mk true (HB.rows (B.u8 l))))] => g_laws_FnWalked_r N b l (fun b11 => K (AV.sc (SV.bool b11)) [(some (HE.mk true (HB.rows (B.u8 l))))])
  | _, _ => none
theorem o_laws_FnWalked_r_ok (N : Nat) : FnOk E 3 (o_laws_FnWalked_r N) := by
  intro R args H K r h
  unfold o_laws_FnWalked_r at h
  dsimp only at h
  split at h
  · exact fnB_ok (ids := [0]) (top := [0]) ok (O_laws_FnWalked_r_ok N) (jn_ok _ _ _) Go.Proofs.Try.func3 (by kernel_rfl) (IT := IT_laws_FnWalked_r_0 N) (sl := sl_laws_FnWalked_r) (J := J_laws_FnWalked_r) (K := K) (H := [(some (HE.mk true (HB.rows (B.u8 _))))]) (IT_laws_FnWalked_r_0_ok N) (by kernel_rfl) rfl ((e_laws_FnWalked_r N _ _ K).trans h)
  · cases h
end Go.Sa
