import Derived.Test.YtaeklgiikmjgfaaSpec
import Derived.Test.YtaeklgiikmjgfaaPLb
import Derived.Test.YtaeklgiikmjgfaaW1
set_option linter.all false
namespace Go.Sa
open Go Go.Eng Go.Proofs
set_option maxRecDepth 100000
set_option maxHeartbeats 4000000
/-! ### loop.example/g00038/spec.RunDeadline -/
abbrev sl_spec_RunDeadline_w : SlotT := [(0, ([0, 1, 4, 5, 6, 7, 8], [4, 7])), (2, ([0, 1, 4, 5, 6, 7, 8, 9, 10], [0, 1, 4, 5, 6, 7, 8, 9]))]
abbrev J_spec_RunDeadline_w : JT := jn [(3, [(26, .b)]), (16, [(66, .b)]), (21, [(113, .b)])] [(113, [(9, .i .i64)])] []
noncomputable def O_spec_RunDeadline_w (N : Nat) : Orc E := addFn 20 (o_spec_l18Tasks_r N) (noFn)
noncomputable def pa_spec_RunDeadline_w__o_spec_l18Tasks_r (N : Nat) (G_spec_l18Tasks_r : ∀ {R : Type} (b : Bool) (l : List RtTask) (k : Bool → Option R), Option R) {R : Type} (args : List AV) (H : Hp E) (K : AV → Hp E → Option R) : Option R :=
 match args, H with
 | [(AV.sc (SV.slc 0 none b))], [(some (HE.mk true (HB.rows (B.iRtTask l))))] => G_spec_l18Tasks_r b l (fun b2 => K (AV.sc (SV.bool b2)) [(some (HE.mk true (HB.rows (B.iRtTask l))))])
 | _, _ => none
noncomputable def OA_spec_RunDeadline_w (N : Nat) (G_spec_l18Tasks_r : ∀ {R : Type} (b : Bool) (l : List RtTask) (k : Bool → Option R), Option R) : Orc E := addFn 20 (pa_spec_RunDeadline_w__o_spec_l18Tasks_r N G_spec_l18Tasks_r) (noFn)
theorem O_spec_RunDeadline_w_ok (N : Nat) : OrcOk (O_spec_RunDeadline_w N) := addFn_ok (o_spec_l18Tasks_r_ok N) (noFn_ok)
noncomputable def s_spec_RunDeadline_w_2 (N : Nat) {R : Type} (b9 : Bool) (n5 : Int) (b10 : Bool) (b11 : Bool) (n6 : Int) (l8 : List RtTask) (n9 : Int) (b12 : Bool) (b13 : Bool) (l9 : List Int) (l10 : List Int) (n10 : Int) (b14 : Bool) (b15 : Bool) (l13 : List Int) (n7 : Int) (n8 : Int) (l11 : List Int) (l12 : List Int) (l14 : List Int) (ag : Int → Int → (List Int) → (List Int) → (List Int) → Option R)  (kN : Int → (List Int) → (List Int) → (List Int) → Option R) : Option R :=
 (cond (decide ((n8 < (((List.length l8) : Nat) : Int))))
 (cond ((decide (((0 : Int) ≤ n8))) && (decide ((n8 < (((List.length l8) : Nat) : Int)))))
 (elemK l8 (Int.toNat n8) fun x =>
 (oK (cond (decide ((n6 ≥ (RtTask.fStart x))))
 (cond ((RtTask.fPeriod x) == (0 : Int))
 none
 (some ((Int.tmod (IntKind.wrap IntKind.i64 (n6 - (RtTask.fStart x))) (RtTask.fPeriod x)) == (0 : Int))))
 (some false)) fun j1 =>
 (cond j1
 (cond ((decide (((0 : Int) ≤ n8))) && (decide ((n8 < (((List.length l11) : Nat) : Int)))))
 (elemK l11 (Int.toNat n8) fun x1 =>
 (cond (decide ((x1 > (0 : Int))))
 (cond ((decide (((0 : Int) ≤ n8))) && (decide ((n8 < (((List.length l14) : Nat) : Int)))))
 (elemK l14 (Int.toNat n8) fun x2 =>
 (cond ((decide (((0 : Int) ≤ n8))) && (decide ((n8 < (((List.length l14) : Nat) : Int)))))
 (elemK l14 (Int.toNat n8) fun x3 =>
 (cond (Nat.blt (Int.toNat n8) (List.length l14))
 (cond ((decide (((0 : Int) ≤ n8))) && (decide ((n8 < (((List.length l11) : Nat) : Int)))))
 (elemK l11 (Int.toNat n8) fun x4 =>
 (cond (Nat.blt (Int.toNat n8) (List.length l11))
 (cond ((decide (((0 : Int) ≤ n8))) && (decide ((n8 < (((List.length l12) : Nat) : Int)))))
 (elemK l12 (Int.toNat n8) fun x5 =>
 (cond (Nat.blt (Int.toNat n8) (List.length l12))
 (oK (cond ((decide (((0 : Int) ≤ n8))) && (decide ((n8 < (((List.length (nset l11 (Int.toNat n8) (RtTask.fBudget x))) : Nat) : Int)))))
 (elemK (nset l11 (Int.toNat n8) (RtTask.fBudget x)) (Int.toNat n8) fun x6 =>
 (cond (decide ((x6 > (0 : Int))))
 (cond (decide ((n7 < (0 : Int))))
 (some true)
 (cond ((decide (((0 : Int) ≤ n8))) && (decide ((n8 < (((List.length (nset l12 (Int.toNat n8) (IntKind.wrap IntKind.i64 (n6 + (RtTask.fPeriod x))))) : Nat) : Int)))))
 (elemK (nset l12 (Int.toNat n8) (IntKind.wrap IntKind.i64 (n6 + (RtTask.fPeriod x)))) (Int.toNat n8) fun x7 =>
 (cond ((decide (((0 : Int) ≤ n7))) && (decide ((n7 < (((List.length (nset l12 (Int.toNat n8) (IntKind.wrap IntKind.i64 (n6 + (RtTask.fPeriod x))))) : Nat) : Int)))))
 (elemK (nset l12 (Int.toNat n8) (IntKind.wrap IntKind.i64 (n6 + (RtTask.fPeriod x)))) (Int.toNat n7) fun x8 =>
 (some (decide ((x7 < x8)))))
 none))
 none))
 (some false)))
 none) fun j2 =>
 (oK (cond j2
 (some n8)
 (some n7)) fun j3 =>
 (ag j3 (IntKind.wrap IntKind.i64 (n8 + (1 : Int))) (nset l11 (Int.toNat n8) (RtTask.fBudget x)) (nset l12 (Int.toNat n8) (IntKind.wrap IntKind.i64 (n6 + (RtTask.fPeriod x)))) (nset l14 (Int.toNat n8) (IntKind.wrap IntKind.i64 (x2 + (1 : Int)))))))
 none))
 none)
 none))
 none)
 none))
 none))
 none)
 (cond ((decide (((0 : Int) ≤ n8))) && (decide ((n8 < (((List.length l11) : Nat) : Int)))))
 (elemK l11 (Int.toNat n8) fun x9 =>
 (cond (Nat.blt (Int.toNat n8) (List.length l11))
 (cond ((decide (((0 : Int) ≤ n8))) && (decide ((n8 < (((List.length l12) : Nat) : Int)))))
 (elemK l12 (Int.toNat n8) fun x10 =>
 (cond (Nat.blt (Int.toNat n8) (List.length l12))
 (oK (cond ((decide (((0 : Int) ≤ n8))) && (decide ((n8 < (((List.length (nset l11 (Int.toNat n8) (RtTask.fBudget x))) : Nat) : Int)))))
 (elemK (nset l11 (Int.toNat n8) (RtTask.fBudget x)) (Int.toNat n8) fun x11 =>
 (cond (decide ((x11 > (0 : Int))))
 (cond (decide ((n7 < (0 : Int))))
 (some true)
 (cond ((decide (((0 : Int) ≤ n8))) && (decide ((n8 < (((List.length (nset l12 (Int.toNat n8) (IntKind.wrap IntKind.i64 (n6 + (RtTask.fPeriod x))))) : Nat) : Int)))))
 (elemK (nset l12 (Int.toNat n8) (IntKind.wrap IntKind.i64 (n6 + (RtTask.fPeriod x)))) (Int.toNat n8) fun x12 =>
 (cond ((decide (((0 : Int) ≤ n7))) && (decide ((n7 < (((List.length (nset l12 (Int.toNat n8) (IntKind.wrap IntKind.i64 (n6 + (RtTask.fPeriod x))))) : Nat) : Int)))))
 (elemK (nset l12 (Int.toNat n8) (IntKind.wrap IntKind.i64 (n6 + (RtTask.fPeriod x)))) (Int.toNat n7) fun x13 =>
 (some (decide ((x12 < x13)))))
 none))
 none))
 (some false)))
 none) fun j4 =>
 (oK (cond j4
 (some n8)
 (some n7)) fun j5 =>
 (ag j5 (IntKind.wrap IntKind.i64 (n8 + (1 : Int))) (nset l11 (Int.toNat n8) (RtTask.fBudget x)) (nset l12 (Int.toNat n8) (IntKind.wrap IntKind.i64 (n6 + (RtTask.fPeriod x)))) l14)))
 none))
 none)
 none))
 none)))
 none)
 (oK (cond ((decide (((0 : Int) ≤ n8))) && (decide ((n8 < (((List.length l11) : Nat) : Int)))))
 (elemK l11 (Int.toNat n8) fun x14 =>
 (cond (decide ((x14 > (0 : Int))))
 (cond (decide ((n7 < (0 : Int))))
 (some true)
 (cond ((decide (((0 : Int) ≤ n8))) && (decide ((n8 < (((List.length l12) : Nat) : Int)))))
 (elemK l12 (Int.toNat n8) fun x15 =>
 (cond ((decide (((0 : Int) ≤ n7))) && (decide ((n7 < (((List.length l12) : Nat) : Int)))))
 (elemK l12 (Int.toNat n7) fun x16 =>
 (some (decide ((x15 < x16)))))
 none))
 none))
 (some false)))
 none) fun j6 =>
 (oK (cond j6
 (some n8)
 (some n7)) fun j7 =>
 (ag j7 (IntKind.wrap IntKind.i64 (n8 + (1 : Int))) l11 l12 l14))))))
 none)
 (kN n7 l11 l12 l14))
noncomputable def ga_s_spec_RunDeadline_w_2 (N : Nat) (G_spec_l18Tasks_r : ∀ {R : Type} (b : Bool) (l : List RtTask) (k : Bool → Option R), Option R) {R : Type} (b9 : Bool) (n5 : Int) (b10 : Bool) (b11 : Bool) (n6 : Int) (l8 : List RtTask) (n9 : Int) (b12 : Bool) (b13 : Bool) (l9 : List Int) (l10 : List Int) (n10 : Int) (b14 : Bool) (b15 : Bool) (l13 : List Int) (n7 : Int) (n8 : Int) (l11 : List Int) (l12 : List Int) (l14 : List Int) (ag : Int → Int → (List Int) → (List Int) → (List Int) → Option R)  (kN : Int → (List Int) → (List Int) → (List Int) → Option R) : Option R :=
 (cond (decide ((n8 < (((List.length l8) : Nat) : Int))))
 (cond ((decide (((0 : Int) ≤ n8))) && (decide ((n8 < (((List.length l8) : Nat) : Int)))))
 (elemK l8 (Int.toNat n8) fun x =>
 (oK (cond (decide ((n6 ≥ (RtTask.fStart x))))
 (cond ((RtTask.fPeriod x) == (0 : Int))
 none
 (some ((Int.tmod (IntKind.wrap IntKind.i64 (n6 - (RtTask.fStart x))) (RtTask.fPeriod x)) == (0 : Int))))
 (some false)) fun j1 =>
 (cond j1
 (cond ((decide (((0 : Int) ≤ n8))) && (decide ((n8 < (((List.length l11) : Nat) : Int)))))
 (elemK l11 (Int.toNat n8) fun x1 =>
 (cond (decide ((x1 > (0 : Int))))
 (cond ((decide (((0 : Int) ≤ n8))) && (decide ((n8 < (((List.length l14) : Nat) : Int)))))
 (elemK l14 (Int.toNat n8) fun x2 =>
 (cond ((decide (((0 : Int) ≤ n8))) && (decide ((n8 < (((List.length l14) : Nat) : Int)))))
 (elemK l14 (Int.toNat n8) fun x3 =>
 (cond (Nat.blt (Int.toNat n8) (List.length l14))
 (cond ((decide (((0 : Int) ≤ n8))) && (decide ((n8 < (((List.length l11) : Nat) : Int)))))
 (elemK l11 (Int.toNat n8) fun x4 =>
 (cond (Nat.blt (Int.toNat n8) (List.length l11))
 (cond ((decide (((0 : Int) ≤ n8))) && (decide ((n8 < (((List.length l12) : Nat) : Int)))))
 (elemK l12 (Int.toNat n8) fun x5 =>
 (cond (Nat.blt (Int.toNat n8) (List.length l12))
 (oK (cond ((decide (((0 : Int) ≤ n8))) && (decide ((n8 < (((List.length (nset l11 (Int.toNat n8) (RtTask.fBudget x))) : Nat) : Int)))))
 (elemK (nset l11 (Int.toNat n8) (RtTask.fBudget x)) (Int.toNat n8) fun x6 =>
 (cond (decide ((x6 > (0 : Int))))
 (cond (decide ((n7 < (0 : Int))))
 (some true)
 (cond ((decide (((0 : Int) ≤ n8))) && (decide ((n8 < (((List.length (nset l12 (Int.toNat n8) (IntKind.wrap IntKind.i64 (n6 + (RtTask.fPeriod x))))) : Nat) : Int)))))
 (elemK (nset l12 (Int.toNat n8) (IntKind.wrap IntKind.i64 (n6 + (RtTask.fPeriod x)))) (Int.toNat n8) fun x7 =>
 (cond ((decide (((0 : Int) ≤ n7))) && (decide ((n7 < (((List.length (nset l12 (Int.toNat n8) (IntKind.wrap IntKind.i64 (n6 + (RtTask.fPeriod x))))) : Nat) : Int)))))
 (elemK (nset l12 (Int.toNat n8) (IntKind.wrap IntKind.i64 (n6 + (RtTask.fPeriod x)))) (Int.toNat n7) fun x8 =>
 (some (decide ((x7 < x8)))))
 none))
 none))
 (some false)))
 none) fun j2 =>
 (oK (cond j2
 (some n8)
 (some n7)) fun j3 =>
 (ag j3 (IntKind.wrap IntKind.i64 (n8 + (1 : Int))) (nset l11 (Int.toNat n8) (RtTask.fBudget x)) (nset l12 (Int.toNat n8) (IntKind.wrap IntKind.i64 (n6 + (RtTask.fPeriod x)))) (nset l14 (Int.toNat n8) (IntKind.wrap IntKind.i64 (x2 + (1 : Int)))))))
 none))
 none)
 none))
 none)
 none))
 none))
 none)
 (cond ((decide (((0 : Int) ≤ n8))) && (decide ((n8 < (((List.length l11) : Nat) : Int)))))
 (elemK l11 (Int.toNat n8) fun x9 =>
 (cond (Nat.blt (Int.toNat n8) (List.length l11))
 (cond ((decide (((0 : Int) ≤ n8))) && (decide ((n8 < (((List.length l12) : Nat) : Int)))))
 (elemK l12 (Int.toNat n8) fun x10 =>
 (cond (Nat.blt (Int.toNat n8) (List.length l12))
 (oK (cond ((decide (((0 : Int) ≤ n8))) && (decide ((n8 < (((List.length (nset l11 (Int.toNat n8) (RtTask.fBudget x))) : Nat) : Int)))))
 (elemK (nset l11 (Int.toNat n8) (RtTask.fBudget x)) (Int.toNat n8) fun x11 =>
 (cond (decide ((x11 > (0 : Int))))
 (cond (decide ((n7 < (0 : Int))))
 (some true)
 (cond ((decide (((0 : Int) ≤ n8))) && (decide ((n8 < (((List.length (nset l12 (Int.toNat n8) (IntKind.wrap IntKind.i64 (n6 + (RtTask.fPeriod x))))) : Nat) : Int)))))
 (elemK (nset l12 (Int.toNat n8) (IntKind.wrap IntKind.i64 (n6 + (RtTask.fPeriod x)))) (Int.toNat n8) fun x12 =>
 (cond ((decide (((0 : Int) ≤ n7))) && (decide ((n7 < (((List.length (nset l12 (Int.toNat n8) (IntKind.wrap IntKind.i64 (n6 + (RtTask.fPeriod x))))) : Nat) : Int)))))
 (elemK (nset l12 (Int.toNat n8) (IntKind.wrap IntKind.i64 (n6 + (RtTask.fPeriod x)))) (Int.toNat n7) fun x13 =>
 (some (decide ((x12 < x13)))))
 none))
 none))
 (some false)))
 none) fun j4 =>
 (oK (cond j4
 (some n8)
 (some n7)) fun j5 =>
 (ag j5 (IntKind.wrap IntKind.i64 (n8 + (1 : Int))) (nset l11 (Int.toNat n8) (RtTask.fBudget x)) (nset l12 (Int.toNat n8) (IntKind.wrap IntKind.i64 (n6 + (RtTask.fPeriod x)))) l14)))
 none))
 none)
 none))
 none)))
 none)
 (oK (cond ((decide (((0 : Int) ≤ n8))) && (decide ((n8 < (((List.length l11) : Nat) : Int)))))
 (elemK l11 (Int.toNat n8) fun x14 =>
 (cond (decide ((x14 > (0 : Int))))
 (cond (decide ((n7 < (0 : Int))))
 (some true)
 (cond ((decide (((0 : Int) ≤ n8))) && (decide ((n8 < (((List.length l12) : Nat) : Int)))))
 (elemK l12 (Int.toNat n8) fun x15 =>
 (cond ((decide (((0 : Int) ≤ n7))) && (decide ((n7 < (((List.length l12) : Nat) : Int)))))
 (elemK l12 (Int.toNat n7) fun x16 =>
 (some (decide ((x15 < x16)))))
 none))
 none))
 (some false)))
 none) fun j6 =>
 (oK (cond j6
 (some n8)
 (some n7)) fun j7 =>
 (ag j7 (IntKind.wrap IntKind.i64 (n8 + (1 : Int))) l11 l12 l14))))))
 none)
 (kN n7 l11 l12 l14))
noncomputable def l_spec_RunDeadline_w_2 (N : Nat) {R : Type} (b9 : Bool) (n5 : Int) (b10 : Bool) (b11 : Bool) (n6 : Int) (l8 : List RtTask) (n9 : Int) (b12 : Bool) (b13 : Bool) (l9 : List Int) (l10 : List Int) (n10 : Int) (b14 : Bool) (b15 : Bool) (l13 : List Int) (kN : Int → (List Int) → (List Int) → (List Int) → Option R) : Nat → Int → Int → (List Int) → (List Int) → (List Int) → Option R
 | 0, _, _, _, _, _ => none
 | f + 1, n7, n8, l11, l12, l14 => s_spec_RunDeadline_w_2 N b9 n5 b10 b11 n6 l8 n9 b12 b13 l9 l10 n10 b14 b15 l13 n7 n8 l11 l12 l14 (fun n7 n8 l11 l12 l14 => l_spec_RunDeadline_w_2 N b9 n5 b10 b11 n6 l8 n9 b12 b13 l9 l10 n10 b14 b15 l13 kN f n7 n8 l11 l12 l14)  kN
noncomputable def c_spec_RunDeadline_w_2 (N : Nat) {R : Type} (b9 : Bool) (n5 : Int) (b10 : Bool) (b11 : Bool) (n6 : Int) (l8 : List RtTask) (n9 : Int) (b12 : Bool) (b13 : Bool) (l9 : List Int) (l10 : List Int) (n10 : Int) (b14 : Bool) (b15 : Bool) (l13 : List Int) (n7 : Int) (n8 : Int) (l11 : List Int) (l12 : List Int) (l14 : List Int) (kN : Int → (List Int) → (List Int) → (List Int) → Option R) : Option R := l_spec_RunDeadline_w_2 N b9 n5 b10 b11 n6 l8 n9 b12 b13 l9 l10 n10 b14 b15 l13 kN N n7 n8 l11 l12 l14
theorem ea_se_spec_RunDeadline_w_2 (N : Nat) (G_spec_l18Tasks_r : ∀ {R : Type} (b : Bool) (l : List RtTask) (k : Bool → Option R), Option R) {R : Type} (b9 : Bool) (n5 : Int) (b10 : Bool) (b11 : Bool) (n6 : Int) (l8 : List RtTask) (n9 : Int) (b12 : Bool) (b13 : Bool) (l9 : List Int) (l10 : List Int) (n10 : Int) (b14 : Bool) (b15 : Bool) (l13 : List Int) (n7 : Int) (n8 : Int) (l11 : List Int) (l12 : List Int) (l14 : List Int) (AG : List (Option AV) → Hp E → Option R) (KL : Ex → List (Option AV) → Hp E → Option R) :
    iterStep (E := E) (OA_spec_RunDeadline_w N G_spec_l18Tasks_r) (fun {R} => LI (noIt) 1 132 sl_spec_RunDeadline_w (R := R)) J_spec_RunDeadline_w 1 132 2 [0, 1, 4, 5, 6, 7, 8, 9, 10] [0, 1, 4, 5, 6, 7, 8, 9] (body Try.f6 2) AG KL [(some (AV.sc (SV.slc 0 none b9))), (some (AV.sc (SV.int IntKind.i64 n5))), (some (AV.sc (SV.ptr 1 0 0))), (some (AV.sc (SV.slc 4 none b10))), (some (AV.sc (SV.slc 5 none b11))), (some (AV.sc (SV.ptr 6 0 0))), (some (AV.sc (SV.int IntKind.i64 n6))), (some (AV.sc (SV.int IntKind.i64 n7))), (some (AV.sc (SV.int IntKind.i64 n8)))] [(some (HE.mk false (HB.rows (B.iRtTask l8)))), (some (HE.mk false (HB.exp none [(SV.int IntKind.i64 n9), (SV.slc 2 none b12), (SV.slc 3 none b13)]))), (some (HE.mk false (HB.rows (B.i64 l9)))), (some (HE.mk false (HB.rows (B.i64 l10)))), (some (HE.mk false (HB.rows (B.i64 l11)))), (some (HE.mk false (HB.rows (B.i64 l12)))), (some (HE.mk false (HB.exp none [(SV.int IntKind.i64 n10), (SV.slc 7 none b14), (SV.slc 8 none b15)]))), (some (HE.mk false (HB.rows (B.i64 l13)))), (some (HE.mk false (HB.rows (B.i64 l14))))] =
      ga_s_spec_RunDeadline_w_2 N G_spec_l18Tasks_r b9 n5 b10 b11 n6 l8 n9 b12 b13 l9 l10 n10 b14 b15 l13 n7 n8 l11 l12 l14 (fun n7 n8 l11 l12 l14 => AG [(some (AV.sc (SV.slc 0 none b9))), (some (AV.sc (SV.int IntKind.i64 n5))), (some (AV.sc (SV.ptr 1 0 0))), (some (AV.sc (SV.slc 4 none b10))), (some (AV.sc (SV.slc 5 none b11))), (some (AV.sc (SV.ptr 6 0 0))), (some (AV.sc (SV.int IntKind.i64 n6))), (some (AV.sc (SV.int IntKind.i64 n7))), (some (AV.sc (SV.int IntKind.i64 n8)))] [(some (HE.mk false (HB.rows (B.iRtTask l8)))), (some (HE.mk false (HB.exp none [(SV.int IntKind.i64 n9), (SV.slc 2 none b12), (SV.slc 3 none b13)]))), (some (HE.mk false (HB.rows (B.i64 l9)))), (some (HE.mk false (HB.rows (B.i64 l10)))), (some (HE.mk false (HB.rows (B.i64 l11)))), (some (HE.mk false (HB.rows (B.i64 l12)))), (some (HE.mk false (HB.exp none [(SV.int IntKind.i64 n10), (SV.slc 7 none b14), (SV.slc 8 none b15)]))), (some (HE.mk false (HB.rows (B.i64 l13)))), (some (HE.mk false (HB.rows (B.i64 l14))))])  (fun n13 l22 l23 l24 => KL Ex.normal [(some (AV.sc (SV.slc 0 none b9))), (some (AV.sc (SV.int IntKind.i64 n5))), (some (AV.sc (SV.ptr 1 0 0))), (some (AV.sc (SV.slc 4 none b10))), (some (AV.sc (SV.slc 5 none b11))), (some (AV.sc (SV.ptr 6 0 0))), (some (AV.sc (SV.int IntKind.i64 n6))), (some (AV.sc (SV.int IntKind.i64 n13)))] [(some (HE.mk false (HB.rows (B.iRtTask l8)))), (some (HE.mk false (HB.exp none [(SV.int IntKind.i64 n9), (SV.slc 2 none b12), (SV.slc 3 none b13)]))), (some (HE.mk false (HB.rows (B.i64 l9)))), (some (HE.mk false (HB.rows (B.i64 l10)))), (some (HE.mk false (HB.rows (B.i64 l22)))), (some (HE.mk false (HB.rows (B.i64 l23)))), (some (HE.mk false (HB.exp none [(SV.int IntKind.i64 n10), (SV.slc 7 none b14), (SV.slc 8 none b15)]))), (some (HE.mk false (HB.rows (B.i64 l13)))), (some (HE.mk false (HB.rows (B.i64 l24))))]) := by kernel_rfl
theorem se_spec_RunDeadline_w_2 (N : Nat) {R : Type} (b9 : Bool) (n5 : Int) (b10 : Bool) (b11 : Bool) (n6 : Int) (l8 : List RtTask) (n9 : Int) (b12 : Bool) (b13 : Bool) (l9 : List Int) (l10 : List Int) (n10 : Int) (b14 : Bool) (b15 : Bool) (l13 : List Int) (n7 : Int) (n8 : Int) (l11 : List Int) (l12 : List Int) (l14 : List Int) (AG : List (Option AV) → Hp E → Option R) (KL : Ex → List (Option AV) → Hp E → Option R) :
    iterStep (E := E) (O_spec_RunDeadline_w N) (fun {R} => LI (noIt) 1 132 sl_spec_RunDeadline_w (R := R)) J_spec_RunDeadline_w 1 132 2 [0, 1, 4, 5, 6, 7, 8, 9, 10] [0, 1, 4, 5, 6, 7, 8, 9] (body Try.f6 2) AG KL [(some (AV.sc (SV.slc 0 none b9))), (some (AV.sc (SV.int IntKind.i64 n5))), (some (AV.sc (SV.ptr 1 0 0))), (some (AV.sc (SV.slc 4 none b10))), (some (AV.sc (SV.slc 5 none b11))), (some (AV.sc (SV.ptr 6 0 0))), (some (AV.sc (SV.int IntKind.i64 n6))), (some (AV.sc (SV.int IntKind.i64 n7))), (some (AV.sc (SV.int IntKind.i64 n8)))] [(some (HE.mk false (HB.rows (B.iRtTask l8)))), (some (HE.mk false (HB.exp none [(SV.int IntKind.i64 n9), (SV.slc 2 none b12), (SV.slc 3 none b13)]))), (some (HE.mk false (HB.rows (B.i64 l9)))), (some (HE.mk false (HB.rows (B.i64 l10)))), (some (HE.mk false (HB.rows (B.i64 l11)))), (some (HE.mk false (HB.rows (B.i64 l12)))), (some (HE.mk false (HB.exp none [(SV.int IntKind.i64 n10), (SV.slc 7 none b14), (SV.slc 8 none b15)]))), (some (HE.mk false (HB.rows (B.i64 l13)))), (some (HE.mk false (HB.rows (B.i64 l14))))] =
      s_spec_RunDeadline_w_2 N b9 n5 b10 b11 n6 l8 n9 b12 b13 l9 l10 n10 b14 b15 l13 n7 n8 l11 l12 l14 (fun n7 n8 l11 l12 l14 => AG [(some (AV.sc (SV.slc 0 none b9))), (some (AV.sc (SV.int IntKind.i64 n5))), (some (AV.sc (SV.ptr 1 0 0))), (some (AV.sc (SV.slc 4 none b10))), (some (AV.sc (SV.slc 5 none b11))), (some (AV.sc (SV.ptr 6 0 0))), (some (AV.sc (SV.int IntKind.i64 n6))), (some (AV.sc (SV.int IntKind.i64 n7))), (some (AV.sc (SV.int IntKind.i64 n8)))] [(some (HE.mk false (HB.rows (B.iRtTask l8)))), (some (HE.mk false (HB.exp none [(SV.int IntKind.i64 n9), (SV.slc 2 none b12), (SV.slc 3 none b13)]))), (some (HE.mk false (HB.rows (B.i64 l9)))), (some (HE.mk false (HB.rows (B.i64 l10)))), (some (HE.mk false (HB.rows (B.i64 l11)))), (some (HE.mk false (HB.rows (B.i64 l12)))), (some (HE.mk false (HB.exp none [(SV.int IntKind.i64 n10), (SV.slc 7 none b14), (SV.slc 8 none b15)]))), (some (HE.mk false (HB.rows (B.i64 l13)))), (some (HE.mk false (HB.rows (B.i64 l14))))])  (fun n13 l22 l23 l24 => KL Ex.normal [(some (AV.sc (SV.slc 0 none b9))), (some (AV.sc (SV.int IntKind.i64 n5))), (some (AV.sc (SV.ptr 1 0 0))), (some (AV.sc (SV.slc 4 none b10))), (some (AV.sc (SV.slc 5 none b11))), (some (AV.sc (SV.ptr 6 0 0))), (some (AV.sc (SV.int IntKind.i64 n6))), (some (AV.sc (SV.int IntKind.i64 n13)))] [(some (HE.mk false (HB.rows (B.iRtTask l8)))), (some (HE.mk false (HB.exp none [(SV.int IntKind.i64 n9), (SV.slc 2 none b12), (SV.slc 3 none b13)]))), (some (HE.mk false (HB.rows (B.i64 l9)))), (some (HE.mk false (HB.rows (B.i64 l10)))), (some (HE.mk false (HB.rows (B.i64 l22)))), (some (HE.mk false (HB.rows (B.i64 l23)))), (some (HE.mk false (HB.exp none [(SV.int IntKind.i64 n10), (SV.slc 7 none b14), (SV.slc 8 none b15)]))), (some (HE.mk false (HB.rows (B.i64 l13)))), (some (HE.mk false (HB.rows (B.i64 l24))))]) := castPr (by kernel_rfl) (ea_se_spec_RunDeadline_w_2 N (g_spec_l18Tasks_r N) b9 n5 b10 b11 n6 l8 n9 b12 b13 l9 l10 n10 b14 b15 l13 n7 n8 l11 l12 l14 AG KL)
theorem le_spec_RunDeadline_w_2 (N : Nat) {R : Type} (b9 : Bool) (n5 : Int) (b10 : Bool) (b11 : Bool) (n6 : Int) (l8 : List RtTask) (n9 : Int) (b12 : Bool) (b13 : Bool) (l9 : List Int) (l10 : List Int) (n10 : Int) (b14 : Bool) (b15 : Bool) (l13 : List Int) (KL : Ex → List (Option AV) → Hp E → Option R) : ∀ (f : Nat), ∀ (n7 : Int) (n8 : Int) (l11 : List Int) (l12 : List Int) (l14 : List Int), iterK (E := E) (O_spec_RunDeadline_w N) (fun {R} => LI (noIt) 1 132 sl_spec_RunDeadline_w (R := R)) J_spec_RunDeadline_w 1 132 2 [0, 1, 4, 5, 6, 7, 8, 9, 10] [0, 1, 4, 5, 6, 7, 8, 9] (body Try.f6 2) f [(some (AV.sc (SV.slc 0 none b9))), (some (AV.sc (SV.int IntKind.i64 n5))), (some (AV.sc (SV.ptr 1 0 0))), (some (AV.sc (SV.slc 4 none b10))), (some (AV.sc (SV.slc 5 none b11))), (some (AV.sc (SV.ptr 6 0 0))), (some (AV.sc (SV.int IntKind.i64 n6))), (some (AV.sc (SV.int IntKind.i64 n7))), (some (AV.sc (SV.int IntKind.i64 n8)))] [(some (HE.mk false (HB.rows (B.iRtTask l8)))), (some (HE.mk false (HB.exp none [(SV.int IntKind.i64 n9), (SV.slc 2 none b12), (SV.slc 3 none b13)]))), (some (HE.mk false (HB.rows (B.i64 l9)))), (some (HE.mk false (HB.rows (B.i64 l10)))), (some (HE.mk false (HB.rows (B.i64 l11)))), (some (HE.mk false (HB.rows (B.i64 l12)))), (some (HE.mk false (HB.exp none [(SV.int IntKind.i64 n10), (SV.slc 7 none b14), (SV.slc 8 none b15)]))), (some (HE.mk false (HB.rows (B.i64 l13)))), (some (HE.mk false (HB.rows (B.i64 l14))))] KL = l_spec_RunDeadline_w_2 N b9 n5 b10 b11 n6 l8 n9 b12 b13 l9 l10 n10 b14 b15 l13 (fun n13 l22 l23 l24 => KL Ex.normal [(some (AV.sc (SV.slc 0 none b9))), (some (AV.sc (SV.int IntKind.i64 n5))), (some (AV.sc (SV.ptr 1 0 0))), (some (AV.sc (SV.slc 4 none b10))), (some (AV.sc (SV.slc 5 none b11))), (some (AV.sc (SV.ptr 6 0 0))), (some (AV.sc (SV.int IntKind.i64 n6))), (some (AV.sc (SV.int IntKind.i64 n13)))] [(some (HE.mk false (HB.rows (B.iRtTask l8)))), (some (HE.mk false (HB.exp none [(SV.int IntKind.i64 n9), (SV.slc 2 none b12), (SV.slc 3 none b13)]))), (some (HE.mk false (HB.rows (B.i64 l9)))), (some (HE.mk false (HB.rows (B.i64 l10)))), (some (HE.mk false (HB.rows (B.i64 l22)))), (some (HE.mk false (HB.rows (B.i64 l23)))), (some (HE.mk false (HB.exp none [(SV.int IntKind.i64 n10), (SV.slc 7 none b14), (SV.slc 8 none b15)]))), (some (HE.mk false (HB.rows (B.i64 l13)))), (some (HE.mk false (HB.rows (B.i64 l24))))]) f n7 n8 l11 l12 l14 := by
  intro f
  induction f with
  | zero => intros; rfl
  | succ f ih =>
    intro n7 n8 l11 l12 l14
    rw [iterK_succ, se_spec_RunDeadline_w_2]
    exact (congrArg (fun z0 => s_spec_RunDeadline_w_2 N b9 n5 b10 b11 n6 l8 n9 b12 b13 l9 l10 n10 b14 b15 l13 n7 n8 l11 l12 l14 z0 (fun n13 l22 l23 l24 => KL Ex.normal [(some (AV.sc (SV.slc 0 none b9))), (some (AV.sc (SV.int IntKind.i64 n5))), (some (AV.sc (SV.ptr 1 0 0))), (some (AV.sc (SV.slc 4 none b10))), (some (AV.sc (SV.slc 5 none b11))), (some (AV.sc (SV.ptr 6 0 0))), (some (AV.sc (SV.int IntKind.i64 n6))), (some (AV.sc (SV.int IntKind.i64 n13)))] [(some (HE.mk false (HB.rows (B.iRtTask l8)))), (some (HE.mk false (HB.exp none [(SV.int IntKind.i64 n9), (SV.slc 2 none b12), (SV.slc 3 none b13)]))), (some (HE.mk false (HB.rows (B.i64 l9)))), (some (HE.mk false (HB.rows (B.i64 l10)))), (some (HE.mk false (HB.rows (B.i64 l22)))), (some (HE.mk false (HB.rows (B.i64 l23)))), (some (HE.mk false (HB.exp none [(SV.int IntKind.i64 n10), (SV.slc 7 none b14), (SV.slc 8 none b15)]))), (some (HE.mk false (HB.rows (B.i64 l13)))), (some (HE.mk false (HB.rows (B.i64 l24))))])) (funext fun n7 => funext fun n8 => funext fun l11 => funext fun l12 => funext fun l14 => ih n7 n8 l11 l12 l14))
noncomputable def i_spec_RunDeadline_w_2 (N : Nat) {R : Type} (vs : List (Option AV)) (H : Hp E) (KL : Ex → List (Option AV) → Hp E → Option R) : Option R :=
 match vs, H with
 | [(some (AV.sc (SV.slc 0 none b9))), (some (AV.sc (SV.int IntKind.i64 n5))), (some (AV.sc (SV.ptr 1 0 0))), (some (AV.sc (SV.slc 4 none b10))), (some (AV.sc (SV.slc 5 none b11))), (some (AV.sc (SV.ptr 6 0 0))), (some (AV.sc (SV.int IntKind.i64 n6))), (some (AV.sc (SV.int IntKind.i64 n7))), (some (AV.sc (SV.int IntKind.i64 n8)))], [(some (HE.mk false (HB.rows (B.iRtTask l8)))), (some (HE.mk false (HB.exp none [(SV.int IntKind.i64 n9), (SV.slc 2 none b12), (SV.slc 3 none b13)]))), (some (HE.mk false (HB.rows (B.i64 l9)))), (some (HE.mk false (HB.rows (B.i64 l10)))), (some (HE.mk false (HB.rows (B.i64 l11)))), (some (HE.mk false (HB.rows (B.i64 l12)))), (some (HE.mk false (HB.exp none [(SV.int IntKind.i64 n10), (SV.slc 7 none b14), (SV.slc 8 none b15)]))), (some (HE.mk false (HB.rows (B.i64 l13)))), (some (HE.mk false (HB.rows (B.i64 l14))))] => c_spec_RunDeadline_w_2 N b9 n5 b10 b11 n6 l8 n9 b12 b13 l9 l10 n10 b14 b15 l13 n7 n8 l11 l12 l14 (fun n14 l25 l26 l27 => KL Ex.normal [(some (AV.sc (SV.slc 0 none b9))), (some (AV.sc (SV.int IntKind.i64 n5))), (some (AV.sc (SV.ptr 1 0 0))), (some (AV.sc (SV.slc 4 none b10))), (some (AV.sc (SV.slc 5 none b11))), (some (AV.sc (SV.ptr 6 0 0))), (some (AV.sc (SV.int IntKind.i64 n6))), (some (AV.sc (SV.int IntKind.i64 n14)))] [(some (HE.mk false (HB.rows (B.iRtTask l8)))), (some (HE.mk false (HB.exp none [(SV.int IntKind.i64 n9), (SV.slc 2 none b12), (SV.slc 3 none b13)]))), (some (HE.mk false (HB.rows (B.i64 l9)))), (some (HE.mk false (HB.rows (B.i64 l10)))), (some (HE.mk false (HB.rows (B.i64 l25)))), (some (HE.mk false (HB.rows (B.i64 l26)))), (some (HE.mk false (HB.exp none [(SV.int IntKind.i64 n10), (SV.slc 7 none b14), (SV.slc 8 none b15)]))), (some (HE.mk false (HB.rows (B.i64 l13)))), (some (HE.mk false (HB.rows (B.i64 l27))))])
 | _, _ => none
noncomputable def IT_spec_RunDeadline_w_2 (N : Nat) : Its E := addIt 2 (i_spec_RunDeadline_w_2 N) (noIt)
theorem IT_spec_RunDeadline_w_2_ok (N : Nat) : ItOk (IT_spec_RunDeadline_w_2 N) 1 132 sl_spec_RunDeadline_w (lsB Try.f6 [2]) :=
  addItB_ok (inner := []) ok (O_spec_RunDeadline_w_ok N) (jn_ok _ _ _) (noIt_ok) rfl (by kernel_rfl) rfl fun vs H KL r h => by
    unfold i_spec_RunDeadline_w_2 at h
    split at h
    · exact ⟨_, (le_spec_RunDeadline_w_2 N _ _ _ _ _ _ _ _ _ _ _ _ _ _ _ KL N _ _ _ _ _).trans h⟩
    · cases h
noncomputable def s_spec_RunDeadline_w_0 (N : Nat) {R : Type} (b2 : Bool) (n1 : Int) (b3 : Bool) (b4 : Bool) (l1 : List RtTask) (n3 : Int) (b5 : Bool) (b6 : Bool) (l2 : List Int) (l3 : List Int) (n4 : Int) (b8 : Bool) (n2 : Int) (l4 : List Int) (l5 : List Int) (b7 : Bool) (l6 : List Int) (l7 : List Int) (ag : Int → (List Int) → (List Int) → Bool → (List Int) → (List Int) → Option R)  (kN : Bool → (List Int) → (List Int) → Option R) : Option R :=
 (cond (decide ((n2 < n1)))
 (c_spec_RunDeadline_w_2 N b2 n1 b3 b4 n2 l1 n3 b5 b6 l2 l3 n4 b7 b8 l6 (-(1 : Int)) (0 : Int) l4 l5 l7 fun n11 l15 l16 l17 =>
 (cond (Go.Eng.roomOk ((List.length l6) + (List.length [n11])) 8)
 (cond (decide ((n11 ≥ (0 : Int))))
 (cond ((decide (((0 : Int) ≤ n11))) && (decide ((n11 < (((List.length l15) : Nat) : Int)))))
 (elemK l15 (Int.toNat n11) fun x17 =>
 (cond ((decide (((0 : Int) ≤ n11))) && (decide ((n11 < (((List.length l15) : Nat) : Int)))))
 (elemK l15 (Int.toNat n11) fun x18 =>
 (cond (Nat.blt (Int.toNat n11) (List.length l15))
 (ag (IntKind.wrap IntKind.i64 (n2 + (1 : Int))) (nset l15 (Int.toNat n11) (IntKind.wrap IntKind.i64 (x17 - (1 : Int)))) l16 (cond (Nat.beq (List.length [n11]) 0) b7 false) (l6 ++ [n11]) l17)
 none))
 none))
 none)
 (ag (IntKind.wrap IntKind.i64 (n2 + (1 : Int))) l15 l16 (cond (Nat.beq (List.length [n11]) 0) b7 false) (l6 ++ [n11]) l17))
 none))
 (kN b7 l6 l7))
noncomputable def ga_s_spec_RunDeadline_w_0 (N : Nat) (G_spec_l18Tasks_r : ∀ {R : Type} (b : Bool) (l : List RtTask) (k : Bool → Option R), Option R) {R : Type} (b2 : Bool) (n1 : Int) (b3 : Bool) (b4 : Bool) (l1 : List RtTask) (n3 : Int) (b5 : Bool) (b6 : Bool) (l2 : List Int) (l3 : List Int) (n4 : Int) (b8 : Bool) (n2 : Int) (l4 : List Int) (l5 : List Int) (b7 : Bool) (l6 : List Int) (l7 : List Int) (ag : Int → (List Int) → (List Int) → Bool → (List Int) → (List Int) → Option R)  (kN : Bool → (List Int) → (List Int) → Option R) : Option R :=
 (cond (decide ((n2 < n1)))
 (c_spec_RunDeadline_w_2 N b2 n1 b3 b4 n2 l1 n3 b5 b6 l2 l3 n4 b7 b8 l6 (-(1 : Int)) (0 : Int) l4 l5 l7 fun n11 l15 l16 l17 =>
 (cond (Go.Eng.roomOk ((List.length l6) + (List.length [n11])) 8)
 (cond (decide ((n11 ≥ (0 : Int))))
 (cond ((decide (((0 : Int) ≤ n11))) && (decide ((n11 < (((List.length l15) : Nat) : Int)))))
 (elemK l15 (Int.toNat n11) fun x17 =>
 (cond ((decide (((0 : Int) ≤ n11))) && (decide ((n11 < (((List.length l15) : Nat) : Int)))))
 (elemK l15 (Int.toNat n11) fun x18 =>
 (cond (Nat.blt (Int.toNat n11) (List.length l15))
 (ag (IntKind.wrap IntKind.i64 (n2 + (1 : Int))) (nset l15 (Int.toNat n11) (IntKind.wrap IntKind.i64 (x17 - (1 : Int)))) l16 (cond (Nat.beq (List.length [n11]) 0) b7 false) (l6 ++ [n11]) l17)
 none))
 none))
 none)
 (ag (IntKind.wrap IntKind.i64 (n2 + (1 : Int))) l15 l16 (cond (Nat.beq (List.length [n11]) 0) b7 false) (l6 ++ [n11]) l17))
 none))
 (kN b7 l6 l7))
noncomputable def l_spec_RunDeadline_w_0 (N : Nat) {R : Type} (b2 : Bool) (n1 : Int) (b3 : Bool) (b4 : Bool) (l1 : List RtTask) (n3 : Int) (b5 : Bool) (b6 : Bool) (l2 : List Int) (l3 : List Int) (n4 : Int) (b8 : Bool) (kN : Bool → (List Int) → (List Int) → Option R) : Nat → Int → (List Int) → (List Int) → Bool → (List Int) → (List Int) → Option R
 | 0, _, _, _, _, _, _ => none
 | f + 1, n2, l4, l5, b7, l6, l7 => s_spec_RunDeadline_w_0 N b2 n1 b3 b4 l1 n3 b5 b6 l2 l3 n4 b8 n2 l4 l5 b7 l6 l7 (fun n2 l4 l5 b7 l6 l7 => l_spec_RunDeadline_w_0 N b2 n1 b3 b4 l1 n3 b5 b6 l2 l3 n4 b8 kN f n2 l4 l5 b7 l6 l7)  kN
noncomputable def c_spec_RunDeadline_w_0 (N : Nat) {R : Type} (b2 : Bool) (n1 : Int) (b3 : Bool) (b4 : Bool) (l1 : List RtTask) (n3 : Int) (b5 : Bool) (b6 : Bool) (l2 : List Int) (l3 : List Int) (n4 : Int) (b8 : Bool) (n2 : Int) (l4 : List Int) (l5 : List Int) (b7 : Bool) (l6 : List Int) (l7 : List Int) (kN : Bool → (List Int) → (List Int) → Option R) : Option R := l_spec_RunDeadline_w_0 N b2 n1 b3 b4 l1 n3 b5 b6 l2 l3 n4 b8 kN N n2 l4 l5 b7 l6 l7
theorem ea_se_spec_RunDeadline_w_0 (N : Nat) (G_spec_l18Tasks_r : ∀ {R : Type} (b : Bool) (l : List RtTask) (k : Bool → Option R), Option R) {R : Type} (b2 : Bool) (n1 : Int) (b3 : Bool) (b4 : Bool) (l1 : List RtTask) (n3 : Int) (b5 : Bool) (b6 : Bool) (l2 : List Int) (l3 : List Int) (n4 : Int) (b8 : Bool) (n2 : Int) (l4 : List Int) (l5 : List Int) (b7 : Bool) (l6 : List Int) (l7 : List Int) (AG : List (Option AV) → Hp E → Option R) (KL : Ex → List (Option AV) → Hp E → Option R) :
    iterStep (E := E) (OA_spec_RunDeadline_w N G_spec_l18Tasks_r) (fun {R} => LI (IT_spec_RunDeadline_w_2 N) 1 132 sl_spec_RunDeadline_w (R := R)) J_spec_RunDeadline_w 1 132 0 [0, 1, 4, 5, 6, 7, 8] [4, 7] (body Try.f6 0) AG KL [(some (AV.sc (SV.slc 0 none b2))), (some (AV.sc (SV.int IntKind.i64 n1))), (some (AV.sc (SV.ptr 1 0 0))), (some (AV.sc (SV.slc 4 none b3))), (some (AV.sc (SV.slc 5 none b4))), (some (AV.sc (SV.ptr 6 0 0))), (some (AV.sc (SV.int IntKind.i64 n2)))] [(some (HE.mk false (HB.rows (B.iRtTask l1)))), (some (HE.mk false (HB.exp none [(SV.int IntKind.i64 n3), (SV.slc 2 none b5), (SV.slc 3 none b6)]))), (some (HE.mk false (HB.rows (B.i64 l2)))), (some (HE.mk false (HB.rows (B.i64 l3)))), (some (HE.mk false (HB.rows (B.i64 l4)))), (some (HE.mk false (HB.rows (B.i64 l5)))), (some (HE.mk false (HB.exp none [(SV.int IntKind.i64 n4), (SV.slc 7 none b7), (SV.slc 8 none b8)]))), (some (HE.mk false (HB.rows (B.i64 l6)))), (some (HE.mk false (HB.rows (B.i64 l7))))] =
      ga_s_spec_RunDeadline_w_0 N G_spec_l18Tasks_r b2 n1 b3 b4 l1 n3 b5 b6 l2 l3 n4 b8 n2 l4 l5 b7 l6 l7 (fun n2 l4 l5 b7 l6 l7 => AG [(some (AV.sc (SV.slc 0 none b2))), (some (AV.sc (SV.int IntKind.i64 n1))), (some (AV.sc (SV.ptr 1 0 0))), (some (AV.sc (SV.slc 4 none b3))), (some (AV.sc (SV.slc 5 none b4))), (some (AV.sc (SV.ptr 6 0 0))), (some (AV.sc (SV.int IntKind.i64 n2)))] [(some (HE.mk false (HB.rows (B.iRtTask l1)))), (some (HE.mk false (HB.exp none [(SV.int IntKind.i64 n3), (SV.slc 2 none b5), (SV.slc 3 none b6)]))), (some (HE.mk false (HB.rows (B.i64 l2)))), (some (HE.mk false (HB.rows (B.i64 l3)))), (some (HE.mk false (HB.rows (B.i64 l4)))), (some (HE.mk false (HB.rows (B.i64 l5)))), (some (HE.mk false (HB.exp none [(SV.int IntKind.i64 n4), (SV.slc 7 none b7), (SV.slc 8 none b8)]))), (some (HE.mk false (HB.rows (B.i64 l6)))), (some (HE.mk false (HB.rows (B.i64 l7))))])  (fun b19 l28 l29 => KL Ex.normal [(some (AV.sc (SV.ptr 1 0 0))), (some (AV.sc (SV.ptr 4 0 0)))] [(some (HE.mk false (HB.rows (B.iRtTask l1)))), (some (HE.mk false (HB.exp none [(SV.int IntKind.i64 n3), (SV.slc 2 none b5), (SV.slc 3 none b6)]))), (some (HE.mk false (HB.rows (B.i64 l2)))), (some (HE.mk false (HB.rows (B.i64 l3)))), (some (HE.mk false (HB.exp none [(SV.int IntKind.i64 n4), (SV.slc 5 none b19), (SV.slc 6 none b8)]))), (some (HE.mk false (HB.rows (B.i64 l28)))), (some (HE.mk false (HB.rows (B.i64 l29))))]) := by kernel_rfl
theorem se_spec_RunDeadline_w_0 (N : Nat) {R : Type} (b2 : Bool) (n1 : Int) (b3 : Bool) (b4 : Bool) (l1 : List RtTask) (n3 : Int) (b5 : Bool) (b6 : Bool) (l2 : List Int) (l3 : List Int) (n4 : Int) (b8 : Bool) (n2 : Int) (l4 : List Int) (l5 : List Int) (b7 : Bool) (l6 : List Int) (l7 : List Int) (AG : List (Option AV) → Hp E → Option R) (KL : Ex → List (Option AV) → Hp E → Option R) :
    iterStep (E := E) (O_spec_RunDeadline_w N) (fun {R} => LI (IT_spec_RunDeadline_w_2 N) 1 132 sl_spec_RunDeadline_w (R := R)) J_spec_RunDeadline_w 1 132 0 [0, 1, 4, 5, 6, 7, 8] [4, 7] (body Try.f6 0) AG KL [(some (AV.sc (SV.slc 0 none b2))), (some (AV.sc (SV.int IntKind.i64 n1))), (some (AV.sc (SV.ptr 1 0 0))), (some (AV.sc (SV.slc 4 none b3))), (some (AV.sc (SV.slc 5 none b4))), (some (AV.sc (SV.ptr 6 0 0))), (some (AV.sc (SV.int IntKind.i64 n2)))] [(some (HE.mk false (HB.rows (B.iRtTask l1)))), (some (HE.mk false (HB.exp none [(SV.int IntKind.i64 n3), (SV.slc 2 none b5), (SV.slc 3 none b6)]))), (some (HE.mk false (HB.rows (B.i64 l2)))), (some (HE.mk false (HB.rows (B.i64 l3)))), (some (HE.mk false (HB.rows (B.i64 l4)))), (some (HE.mk false (HB.rows (B.i64 l5)))), (some (HE.mk false (HB.exp none [(SV.int IntKind.i64 n4), (SV.slc 7 none b7), (SV.slc 8 none b8)]))), (some (HE.mk false (HB.rows (B.i64 l6)))), (some (HE.mk false (HB.rows (B.i64 l7))))] =
      s_spec_RunDeadline_w_0 N b2 n1 b3 b4 l1 n3 b5 b6 l2 l3 n4 b8 n2 l4 l5 b7 l6 l7 (fun n2 l4 l5 b7 l6 l7 => AG [(some (AV.sc (SV.slc 0 none b2))), (some (AV.sc (SV.int IntKind.i64 n1))), (some (AV.sc (SV.ptr 1 0 0))), (some (AV.sc (SV.slc 4 none b3))), (some (AV.sc (SV.slc 5 none b4))), (some (AV.sc (SV.ptr 6 0 0))), (some (AV.sc (SV.int IntKind.i64 n2)))] [(some (HE.mk false (HB.rows (B.iRtTask l1)))), (some (HE.mk false (HB.exp none [(SV.int IntKind.i64 n3), (SV.slc 2 none b5), (SV.slc 3 none b6)]))), (some (HE.mk false (HB.rows (B.i64 l2)))), (some (HE.mk false (HB.rows (B.i64 l3)))), (some (HE.mk false (HB.rows (B.i64 l4)))), (some (HE.mk false (HB.rows (B.i64 l5)))), (some (HE.mk false (HB.exp none [(SV.int IntKind.i64 n4), (SV.slc 7 none b7), (SV.slc 8 none b8)]))), (some (HE.mk false (HB.rows (B.i64 l6)))), (some (HE.mk false (HB.rows (B.i64 l7))))])  (fun b19 l28 l29 => KL Ex.normal [(some (AV.sc (SV.ptr 1 0 0))), (some (AV.sc (SV.ptr 4 0 0)))] [(some (HE.mk false (HB.rows (B.iRtTask l1)))), (some (HE.mk false (HB.exp none [(SV.int IntKind.i64 n3), (SV.slc 2 none b5), (SV.slc 3 none b6)]))), (some (HE.mk false (HB.rows (B.i64 l2)))), (some (HE.mk false (HB.rows (B.i64 l3)))), (some (HE.mk false (HB.exp none [(SV.int IntKind.i64 n4), (SV.slc 5 none b19), (SV.slc 6 none b8)]))), (some (HE.mk false (HB.rows (B.i64 l28)))), (some (HE.mk false (HB.rows (B.i64 l29))))]) := castPr (by kernel_rfl) (ea_se_spec_RunDeadline_w_0 N (g_spec_l18Tasks_r N) b2 n1 b3 b4 l1 n3 b5 b6 l2 l3 n4 b8 n2 l4 l5 b7 l6 l7 AG KL)
theorem le_spec_RunDeadline_w_0 (N : Nat) {R : Type} (b2 : Bool) (n1 : Int) (b3 : Bool) (b4 : Bool) (l1 : List RtTask) (n3 : Int) (b5 : Bool) (b6 : Bool) (l2 : List Int) (l3 : List Int) (n4 : Int) (b8 : Bool) (KL : Ex → List (Option AV) → Hp E → Option R) : ∀ (f : Nat), ∀ (n2 : Int) (l4 : List Int) (l5 : List Int) (b7 : Bool) (l6 : List Int) (l7 : List Int), iterK (E := E) (O_spec_RunDeadline_w N) (fun {R} => LI (IT_spec_RunDeadline_w_2 N) 1 132 sl_spec_RunDeadline_w (R := R)) J_spec_RunDeadline_w 1 132 0 [0, 1, 4, 5, 6, 7, 8] [4, 7] (body Try.f6 0) f [(some (AV.sc (SV.slc 0 none b2))), (some (AV.sc (SV.int IntKind.i64 n1))), (some (AV.sc (SV.ptr 1 0 0))), (some (AV.sc (SV.slc 4 none b3))), (some (AV.sc (SV.slc 5 none b4))), (some (AV.sc (SV.ptr 6 0 0))), (some (AV.sc (SV.int IntKind.i64 n2)))] [(some (HE.mk false (HB.rows (B.iRtTask l1)))), (some (HE.mk false (HB.exp none [(SV.int IntKind.i64 n3), (SV.slc 2 none b5), (SV.slc 3 none b6)]))), (some (HE.mk false (HB.rows (B.i64 l2)))), (some (HE.mk false (HB.rows (B.i64 l3)))), (some (HE.mk false (HB.rows (B.i64 l4)))), (some (HE.mk false (HB.rows (B.i64 l5)))), (some (HE.mk false (HB.exp none [(SV.int IntKind.i64 n4), (SV.slc 7 none b7), (SV.slc 8 none b8)]))), (some (HE.mk false (HB.rows (B.i64 l6)))), (some (HE.mk false (HB.rows (B.i64 l7))))] KL = l_spec_RunDeadline_w_0 N b2 n1 b3 b4 l1 n3 b5 b6 l2 l3 n4 b8 (fun b19 l28 l29 => KL Ex.normal [(some (AV.sc (SV.ptr 1 0 0))), (some (AV.sc (SV.ptr 4 0 0)))] [(some (HE.mk false (HB.rows (B.iRtTask l1)))), (some (HE.mk false (HB.exp none [(SV.int IntKind.i64 n3), (SV.slc 2 none b5), (SV.slc 3 none b6)]))), (some (HE.mk false (HB.rows (B.i64 l2)))), (some (HE.mk false (HB.rows (B.i64 l3)))), (some (HE.mk false (HB.exp none [(SV.int IntKind.i64 n4), (SV.slc 5 none b19), (SV.slc 6 none b8)]))), (some (HE.mk false (HB.rows (B.i64 l28)))), (some (HE.mk false (HB.rows (B.i64 l29))))]) f n2 l4 l5 b7 l6 l7 := by
  intro f
  induction f with
  | zero => intros; rfl
  | succ f ih =>
    intro n2 l4 l5 b7 l6 l7
    rw [iterK_succ, se_spec_RunDeadline_w_0]
    exact (congrArg (fun z0 => s_spec_RunDeadline_w_0 N b2 n1 b3 b4 l1 n3 b5 b6 l2 l3 n4 b8 n2 l4 l5 b7 l6 l7 z0 (fun b19 l28 l29 => KL Ex.normal [(some (AV.sc (SV.ptr 1 0 0))), (some (AV.sc (SV.ptr 4 0 0)))] [(some (HE.mk false (HB.rows (B.iRtTask l1)))), (some (HE.mk false (HB.exp none [(SV.int IntKind.i64 n3), (SV.slc 2 none b5), (SV.slc 3 none b6)]))), (some (HE.mk false (HB.rows (B.i64 l2)))), (some (HE.mk false (HB.rows (B.i64 l3)))), (some (HE.mk false (HB.exp none [(SV.int IntKind.i64 n4), (SV.slc 5 none b19), (SV.slc 6 none b8)]))), (some (HE.mk false (HB.rows (B.i64 l28)))), (some (HE.mk false (HB.rows (B.i64 l29))))])) (funext fun n2 => funext fun l4 => funext fun l5 => funext fun b7 => funext fun l6 => funext fun l7 => ih n2 l4 l5 b7 l6 l7))
noncomputable def i_spec_RunDeadline_w_0 (N : Nat) {R : Type} (vs : List (Option AV)) (H : Hp E) (KL : Ex → List (Option AV) → Hp E → Option R) : Option R :=
 match vs, H with
 | [(some (AV.sc (SV.slc 0 none b2))), (some (AV.sc (SV.int IntKind.i64 n1))), (some (AV.sc (SV.ptr 1 0 0))), (some (AV.sc (SV.slc 4 none b3))), (some (AV.sc (SV.slc 5 none b4))), (some (AV.sc (SV.ptr 6 0 0))), (some (AV.sc (SV.int IntKind.i64 n2)))], [(some (HE.mk false (HB.rows (B.iRtTask l1)))), (some (HE.mk false (HB.exp none [(SV.int IntKind.i64 n3), (SV.slc 2 none b5), (SV.slc 3 none b6)]))), (some (HE.mk false (HB.rows (B.i64 l2)))), (some (HE.mk false (HB.rows (B.i64 l3)))), (some (HE.mk false (HB.rows (B.i64 l4)))), (some (HE.mk false (HB.rows (B.i64 l5)))), (some (HE.mk false (HB.exp none [(SV.int IntKind.i64 n4), (SV.slc 7 none b7), (SV.slc 8 none b8)]))), (some (HE.mk false (HB.rows (B.i64 l6)))), (some (HE.mk false (HB.rows (B.i64 l7))))] => c_spec_RunDeadline_w_0 N b2 n1 b3 b4 l1 n3 b5 b6 l2 l3 n4 b8 n2 l4 l5 b7 l6 l7 (fun b20 l30 l31 => KL Ex.normal [(some (AV.sc (SV.ptr 1 0 0))), (some (AV.sc (SV.ptr 4 0 0)))] [(some (HE.mk false (HB.rows (B.iRtTask l1)))), (some (HE.mk false (HB.exp none [(SV.int IntKind.i64 n3), (SV.slc 2 none b5), (SV.slc 3 none b6)]))), (some (HE.mk false (HB.rows (B.i64 l2)))), (some (HE.mk false (HB.rows (B.i64 l3)))), (some (HE.mk false (HB.exp none [(SV.int IntKind.i64 n4), (SV.slc 5 none b20), (SV.slc 6 none b8)]))), (some (HE.mk false (HB.rows (B.i64 l30)))), (some (HE.mk false (HB.rows (B.i64 l31))))])
 | _, _ => none
noncomputable def IT_spec_RunDeadline_w_0 (N : Nat) : Its E := addIt 0 (i_spec_RunDeadline_w_0 N) (IT_spec_RunDeadline_w_2 N)
theorem IT_spec_RunDeadline_w_0_ok (N : Nat) : ItOk (IT_spec_RunDeadline_w_0 N) 1 132 sl_spec_RunDeadline_w (lsB Try.f6 [0, 2]) :=
  addItB_ok (inner := [2]) ok (O_spec_RunDeadline_w_ok N) (jn_ok _ _ _) (IT_spec_RunDeadline_w_2_ok N) rfl (by kernel_rfl) rfl fun vs H KL r h => by
    unfold i_spec_RunDeadline_w_0 at h
    split at h
    · exact ⟨_, (le_spec_RunDeadline_w_0 N _ _ _ _ _ _ _ _ _ _ _ _ KL N _ _ _ _ _ _).trans h⟩
    · cases h
noncomputable def g_spec_RunDeadline_w (N : Nat) {R : Type} (b : Bool) (n : Int) (l : List RtTask) (k : Int → Bool → Bool → (List Int) → (List Int) → Option R) : Option R :=
 (cond (decide (((((List.length l) : Nat) : Int) > (1000 : Int))))
 (k (2 : Int) true true [] [])
 (oK (g_spec_l18Tasks_r N b l fun b1 =>
 (cond (!b1)
 (some true)
 (cond (decide ((n < (0 : Int))))
 (some true)
 (some (decide ((n > (1000 : Int)))))))) fun j =>
 (cond j
 (k (1 : Int) true true [] [])
 (cond (((decide (((((List.length l) : Nat) : Int) = (((List.length l) : Nat) : Int)))) && true) && (Go.Eng.roomOk (Int.toNat (((List.length l) : Nat) : Int)) 8))
 (cond (((decide (((((List.length l) : Nat) : Int) = (((List.length l) : Nat) : Int)))) && true) && (Go.Eng.roomOk (Int.toNat (((List.length l) : Nat) : Int)) 8))
 (cond (((decide (((((List.length l) : Nat) : Int) = (((List.length l) : Nat) : Int)))) && true) && (Go.Eng.roomOk (Int.toNat (((List.length l) : Nat) : Int)) 8))
 (c_spec_RunDeadline_w_0 N b n false false l (0 : Int) true true [] [] (0 : Int) false (0 : Int) (List.replicate (Int.toNat (((List.length l) : Nat) : Int)) (0 : Int)) (List.replicate (Int.toNat (((List.length l) : Nat) : Int)) (0 : Int)) true [] (List.replicate (Int.toNat (((List.length l) : Nat) : Int)) (0 : Int)) fun b16 l18 l19 =>
 (k (0 : Int) b16 false l18 l19))
 none)
 none)
 none))))
noncomputable def ga_g_spec_RunDeadline_w (N : Nat) (G_spec_l18Tasks_r : ∀ {R : Type} (b : Bool) (l : List RtTask) (k : Bool → Option R), Option R) {R : Type} (b : Bool) (n : Int) (l : List RtTask) (k : Int → Bool → Bool → (List Int) → (List Int) → Option R) : Option R :=
 (cond (decide (((((List.length l) : Nat) : Int) > (1000 : Int))))
 (k (2 : Int) true true [] [])
 (oK (G_spec_l18Tasks_r b l fun b1 =>
 (cond (!b1)
 (some true)
 (cond (decide ((n < (0 : Int))))
 (some true)
 (some (decide ((n > (1000 : Int)))))))) fun j =>
 (cond j
 (k (1 : Int) true true [] [])
 (cond (((decide (((((List.length l) : Nat) : Int) = (((List.length l) : Nat) : Int)))) && true) && (Go.Eng.roomOk (Int.toNat (((List.length l) : Nat) : Int)) 8))
 (cond (((decide (((((List.length l) : Nat) : Int) = (((List.length l) : Nat) : Int)))) && true) && (Go.Eng.roomOk (Int.toNat (((List.length l) : Nat) : Int)) 8))
 (cond (((decide (((((List.length l) : Nat) : Int) = (((List.length l) : Nat) : Int)))) && true) && (Go.Eng.roomOk (Int.toNat (((List.length l) : Nat) : Int)) 8))
 (c_spec_RunDeadline_w_0 N b n false false l (0 : Int) true true [] [] (0 : Int) false (0 : Int) (List.replicate (Int.toNat (((List.length l) : Nat) : Int)) (0 : Int)) (List.replicate (Int.toNat (((List.length l) : Nat) : Int)) (0 : Int)) true [] (List.replicate (Int.toNat (((List.length l) : Nat) : Int)) (0 : Int)) fun b16 l18 l19 =>
 (k (0 : Int) b16 false l18 l19))
 none)
 none)
 none))))
theorem ea_e_spec_RunDeadline_w (N : Nat) (G_spec_l18Tasks_r : ∀ {R : Type} (b : Bool) (l : List RtTask) (k : Bool → Option R), Option R) {R : Type} (b : Bool) (n : Int) (l : List RtTask) (K : AV → Hp E → Option R) :
    runFnI (E := E) (OA_spec_RunDeadline_w N G_spec_l18Tasks_r) (IT_spec_RunDeadline_w_0 N) sl_spec_RunDeadline_w J_spec_RunDeadline_w Try.f6 [(AV.sc (SV.slc 0 none b)), (AV.sc (SV.int IntKind.i64 n))] [(some (HE.mk false (HB.rows (B.iRtTask l))))] K =
      ga_g_spec_RunDeadline_w N G_spec_l18Tasks_r b n l (fun n12 b17 b18 l20 l21 => K (AV.agg [(SV.int IntKind.i64 n12), (SV.slc 1 none b17), (SV.slc 2 none b18)]) [(some (HE.mk false (HB.rows (B.iRtTask l)))), (some (HE.mk false (HB.rows (B.i64 l20)))), (some (HE.mk false (HB.rows (B.i64 l21))))]) := by kernel_rfl
theorem e_spec_RunDeadline_w (N : Nat) {R : Type} (b : Bool) (n : Int) (l : List RtTask) (K : AV → Hp E → Option R) :
    runFnI (E := E) (O_spec_RunDeadline_w N) (IT_spec_RunDeadline_w_0 N) sl_spec_RunDeadline_w J_spec_RunDeadline_w Try.f6 [(AV.sc (SV.slc 0 none b)), (AV.sc (SV.int IntKind.i64 n))] [(some (HE.mk false (HB.rows (B.iRtTask l))))] K =
      g_spec_RunDeadline_w N b n l (fun n12 b17 b18 l20 l21 => K (AV.agg [(SV.int IntKind.i64 n12), (SV.slc 1 none b17), (SV.slc 2 none b18)]) [(some (HE.mk false (HB.rows (B.iRtTask l)))), (some (HE.mk false (HB.rows (B.i64 l20)))), (some (HE.mk false (HB.rows (B.i64 l21))))]) := castPr (by kernel_rfl) (ea_e_spec_RunDeadline_w N (g_spec_l18Tasks_r N) b n l K)
noncomputable def o_spec_RunDeadline_w (N : Nat) {R : Type} (args : List AV) (H : Hp E) (K : AV → Hp E → Option R) : Option R :=
 match args, H with
 | [(AV.sc (SV.slc 0 none b)), (AV.sc (SV.int IntKind.i64 n))], [(some (HE.mk false (HB.rows (B.iRtTask l))))] => g_spec_RunDeadline_w N b n l (fun n12 b17 b18 l20 l21 => K (AV.agg [(SV.int IntKind.i64 n12), (SV.slc 1 none b17), (SV.slc 2 none b18)]) [(some (HE.mk false (HB.rows (B.iRtTask l)))), (some (HE.mk false (HB.rows (B.i64 l20)))), (some (HE.mk false (HB.rows (B.i64 l21))))])
 | _, _ => none
theorem o_spec_RunDeadline_w_ok (N : Nat) : FnOk E 6 (o_spec_RunDeadline_w N) := by
  intro R args H K r h
  unfold o_spec_RunDeadline_w at h
  dsimp only at h
  split at h
  · exact fnB_ok (ids := [0, 2]) (top := [0]) ok (O_spec_RunDeadline_w_ok N) (jn_ok _ _ _) Try.func6 (by kernel_rfl) (IT := IT_spec_RunDeadline_w_0 N) (sl := sl_spec_RunDeadline_w) (J := J_spec_RunDeadline_w) (K := K) (H := [(some (HE.mk false (HB.rows (B.iRtTask _))))]) (IT_spec_RunDeadline_w_0_ok N) (by kernel_rfl) rfl ((e_spec_RunDeadline_w N _ _ _ K).trans h)
  · cases h
/-! ### loop.example/g00038/impl.yin -/
abbrev sl_impl_yin : SlotT := []
abbrev J_impl_yin : JT := jn [(1, [(6, .b)])] [] []
noncomputable def O_impl_yin (N : Nat) : Orc E := noFn
theorem O_impl_yin_ok (N : Nat) : OrcOk (O_impl_yin N) := noFn_ok
noncomputable def g_impl_yin (N : Nat) {R : Type} (n : Int) (n1 : Int) (n2 : Int) (k : Bool → Option R) : Option R :=
 (oK (cond (decide ((n ≥ n1)))
 (some (decide ((n ≤ n2))))
 (some false)) fun j =>
 (k j))
theorem e_impl_yin (N : Nat) {R : Type} (n : Int) (n1 : Int) (n2 : Int) (K : AV → Hp E → Option R) :
    runFnI (E := E) (O_impl_yin N) (noIt) sl_impl_yin J_impl_yin Try.f22 [(AV.sc (SV.int IntKind.i64 n)), (AV.sc (SV.int IntKind.i64 n1)), (AV.sc (SV.int IntKind.i64 n2))] [] K =
      g_impl_yin N n n1 n2 (fun b => K (AV.sc (SV.bool b)) []) := by kernel_rfl
noncomputable def o_impl_yin (N : Nat) {R : Type} (args : List AV) (H : Hp E) (K : AV → Hp E → Option R) : Option R :=
 match args, H with
 | [(AV.sc (SV.int IntKind.i64 n)), (AV.sc (SV.int IntKind.i64 n1)), (AV.sc (SV.int IntKind.i64 n2))], [] => g_impl_yin N n n1 n2 (fun b => K (AV.sc (SV.bool b)) [])
 | _, _ => none
theorem o_impl_yin_ok (N : Nat) : FnOk E 22 (o_impl_yin N) := by
  intro R args H K r h
  unfold o_impl_yin at h
  dsimp only at h
  split at h
  · exact fnB_ok (ids := []) (top := []) ok (O_impl_yin_ok N) (jn_ok _ _ _) Try.func22 (by kernel_rfl) (IT := noIt) (sl := sl_impl_yin) (J := J_impl_yin) (K := K) (H := []) (noIt_ok) (by kernel_rfl) rfl ((e_impl_yin N _ _ _ K).trans h)
  · cases h
/-! ### loop.example/g00038/impl.ytasksOk$1 -/
abbrev sl_impl_ytasksOk_1 : SlotT := []
abbrev J_impl_ytasksOk_1 : JT := jn [(1, [(2, .b)])] [] []
noncomputable def O_impl_ytasksOk_1 (N : Nat) : Orc E := addFn 22 (o_impl_yin N) (noFn)
theorem O_impl_ytasksOk_1_ok (N : Nat) : OrcOk (O_impl_ytasksOk_1 N) := addFn_ok (o_impl_yin_ok N) (noFn_ok)
noncomputable def g_impl_ytasksOk_1 (N : Nat) {R : Type} (n : Int) (n1 : Int) (n2 : Int) (k : Bool → Option R) : Option R :=
 (oK (g_impl_yin N n (0 : Int) (100 : Int) fun b =>
 (cond (!b)
 (some true)
 (g_impl_yin N n1 (1 : Int) (40 : Int) fun b1 =>
 (cond (!b1)
 (some true)
 (g_impl_yin N n2 (1 : Int) n1 fun b2 =>
 (some (!b2))))))) fun j =>
 (k j))
theorem e_impl_ytasksOk_1 (N : Nat) {R : Type} (n : Int) (n1 : Int) (n2 : Int) (K : AV → Hp E → Option R) :
    runFnI (E := E) (O_impl_ytasksOk_1 N) (noIt) sl_impl_ytasksOk_1 J_impl_ytasksOk_1 Try.f37 [(AV.agg [(SV.int IntKind.i64 n), (SV.int IntKind.i64 n1), (SV.int IntKind.i64 n2)])] [] K =
      g_impl_ytasksOk_1 N n n1 n2 (fun b3 => K (AV.sc (SV.bool b3)) []) := by kernel_rfl
noncomputable def o_impl_ytasksOk_1 (N : Nat) {R : Type} (args : List AV) (H : Hp E) (K : AV → Hp E → Option R) : Option R :=
 match args, H with
 | [(AV.agg [(SV.int IntKind.i64 n), (SV.int IntKind.i64 n1), (SV.int IntKind.i64 n2)])], [] => g_impl_ytasksOk_1 N n n1 n2 (fun b3 => K (AV.sc (SV.bool b3)) [])
 | _, _ => none
theorem o_impl_ytasksOk_1_ok (N : Nat) : FnOk E 37 (o_impl_ytasksOk_1 N) := by
  intro R args H K r h
  unfold o_impl_ytasksOk_1 at h
  dsimp only at h
  split at h
  · exact fnB_ok (ids := []) (top := []) ok (O_impl_ytasksOk_1_ok N) (jn_ok _ _ _) Try.func37 (by kernel_rfl) (IT := noIt) (sl := sl_impl_ytasksOk_1) (J := J_impl_ytasksOk_1) (K := K) (H := []) (noIt_ok) (by kernel_rfl) rfl ((e_impl_ytasksOk_1 N _ _ _ K).trans h)
  · cases h
end Go.Sa
