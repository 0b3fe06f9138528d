import Derived.Test.YtflmjaehnbnjnaaSpec
import Derived.Test.YtflmjaehnbnjnaaPLb
import Derived.Test.YtflmjaehnbnjnaaW5
set_option linter.all false
namespace Go.Sa
open Go Go.Eng Go.Proofs
set_option maxRecDepth 100000
set_option maxHeartbeats 4000000
/-! ### loop.example/g00038/impl.ylookup -/
abbrev sl_impl_ylookup_w : SlotT := []
abbrev J_impl_ylookup_w : JT := jn [(10, [(52, .b)])] [] []
noncomputable def O_impl_ylookup_w (N : Nat) : Orc E := addFn 48 (o_impl_yputs N) (addFn 47 (o_impl_ylets N) (addFn 46 (o_impl_ygetWord_w N) (addFn 66 (o_impl_yframes_w N) (noFn))))
noncomputable def pa_impl_ylookup_w__o_impl_yputs (N : Nat) (G_impl_yputs : ∀ {R : Type} (n : Int) (k : Int → Option R), Option R) {R : Type} (args : List AV) (H : Hp E) (K : AV → Hp E → Option R) : Option R :=
 match args, H with
 | [(AV.sc (SV.int IntKind.i64 n))], [] => G_impl_yputs n (fun n1 => K (AV.sc (SV.int IntKind.i64 n1)) [])
 | _, _ => none
noncomputable def pa_impl_ylookup_w__o_impl_ylets (N : Nat) (G_impl_ylets : ∀ {R : Type} (n : Int) (n1 : Int) (b : Bool) (k : Bool → Option R), Option R) {R : Type} (args : List AV) (H : Hp E) (K : AV → Hp E → Option R) : Option R :=
 match args, H with
 | [(AV.sc (SV.int IntKind.i64 n)), (AV.sc (SV.int IntKind.i64 n1)), (AV.sc (SV.bool b))], [] => G_impl_ylets n n1 b (fun b1 => K (AV.sc (SV.bool b1)) [])
 | _, _ => none
noncomputable def pa_impl_ylookup_w__o_impl_ygetWord_w (N : Nat) (G_impl_ygetWord_w : ∀ {R : Type} (b : Bool) (n : Int) (l : List Int) (k : Int → Option R), Option R) {R : Type} (args : List AV) (H : Hp E) (K : AV → Hp E → Option R) : Option R :=
 match args, H with
 | [(AV.sc (SV.slc 0 none b)), (AV.sc (SV.int IntKind.i64 n))], [(some (HE.mk false (HB.rows (B.u8 l))))] => G_impl_ygetWord_w b n l (fun n1 => K (AV.sc (SV.int IntKind.i64 n1)) [(some (HE.mk false (HB.rows (B.u8 l))))])
 | _, _ => none
noncomputable def pa_impl_ylookup_w__o_impl_yframes_w (N : Nat) (G_impl_yframes_w : ∀ {R : Type} (b : Bool) (l : List Int) (k : Int → Option R), Option R) {R : Type} (args : List AV) (H : Hp E) (K : AV → Hp E → Option R) : Option R :=
 match args, H with
 | [(AV.sc (SV.slc 0 none b))], [(some (HE.mk false (HB.rows (B.u8 l))))] => G_impl_yframes_w b l (fun n => K (AV.sc (SV.int IntKind.i64 n)) [(some (HE.mk false (HB.rows (B.u8 l))))])
 | _, _ => none
noncomputable def OA_impl_ylookup_w (N : Nat) (G_impl_yputs : ∀ {R : Type} (n : Int) (k : Int → Option R), Option R) (G_impl_ylets : ∀ {R : Type} (n : Int) (n1 : Int) (b : Bool) (k : Bool → Option R), Option R) (G_impl_ygetWord_w : ∀ {R : Type} (b : Bool) (n : Int) (l : List Int) (k : Int → Option R), Option R) (G_impl_yframes_w : ∀ {R : Type} (b : Bool) (l : List Int) (k : Int → Option R), Option R) : Orc E := addFn 48 (pa_impl_ylookup_w__o_impl_yputs N G_impl_yputs) (addFn 47 (pa_impl_ylookup_w__o_impl_ylets N G_impl_ylets) (addFn 46 (pa_impl_ylookup_w__o_impl_ygetWord_w N G_impl_ygetWord_w) (addFn 66 (pa_impl_ylookup_w__o_impl_yframes_w N G_impl_yframes_w) (noFn))))
theorem O_impl_ylookup_w_ok (N : Nat) : OrcOk (O_impl_ylookup_w N) := addFn_ok (o_impl_yputs_ok N) (addFn_ok (o_impl_ylets_ok N) (addFn_ok (o_impl_ygetWord_w_ok N) (addFn_ok (o_impl_yframes_w_ok N) (noFn_ok))))
noncomputable def g_impl_ylookup_w (N : Nat) {R : Type} (b : Bool) (n : Int) (n1 : Int) (n2 : Int) (b1 : Bool) (l : List Int) (k : Int → Int → Int → Int → Int → Bool → Int → Int → Int → Option R) : Option R :=
 (g_impl_yframes_w N b l fun n3 =>
 (cond (decide ((n ≥ n3)))
 (k (2 : Int) (0 : Int) (0 : Int) (0 : Int) (0 : Int) false (0 : Int) (0 : Int) (0 : Int))
 (g_impl_ygetWord_w N b (IntKind.wrap IntKind.i64 ((IntKind.wrap IntKind.i64 (n * (256 : Int))) + (IntKind.wrap IntKind.i64 ((4 : Int) * (IntKind.wrap IntKind.i64 (((BitVec.toNat ((BitVec.ofInt 64 (Int.fdiv n1 (8192 : Int))) &&& (BitVec.ofInt 64 (31 : Int)))) : Nat) : Int)))))) l fun n4 =>
 (oK (cond ((IntKind.wrap IntKind.i64 (((BitVec.toNat ((BitVec.ofInt 64 n4) &&& (BitVec.ofInt 64 (1 : Int)))) : Nat) : Int)) != (0 : Int))
 (some ((IntKind.wrap IntKind.i64 (((BitVec.toNat ((BitVec.ofInt 64 n4) &&& (BitVec.ofInt 64 (14 : Int)))) : Nat) : Int)) == (0 : Int)))
 (some false)) fun j =>
 (cond j
 (g_impl_yframes_w N b l fun n5 =>
 (cond (decide (((Int.fdiv n4 (256 : Int)) ≥ n5)))
 (k (2 : Int) (0 : Int) (IntKind.wrap IntKind.i64 ((IntKind.wrap IntKind.i64 (n * (256 : Int))) + (IntKind.wrap IntKind.i64 ((4 : Int) * (IntKind.wrap IntKind.i64 (((BitVec.toNat ((BitVec.ofInt 64 (Int.fdiv n1 (8192 : Int))) &&& (BitVec.ofInt 64 (31 : Int)))) : Nat) : Int)))))) (0 : Int) (0 : Int) false n (0 : Int) (1 : Int))
 (g_impl_ygetWord_w N b (IntKind.wrap IntKind.i64 ((IntKind.wrap IntKind.i64 ((Int.fdiv n4 (256 : Int)) * (256 : Int))) + (IntKind.wrap IntKind.i64 ((4 : Int) * (IntKind.wrap IntKind.i64 (((BitVec.toNat ((BitVec.ofInt 64 (Int.fdiv n1 (256 : Int))) &&& (BitVec.ofInt 64 (31 : Int)))) : Nat) : Int)))))) l fun n6 =>
 (g_impl_ylets N (IntKind.wrap IntKind.i64 (((BitVec.toNat ((BitVec.ofInt 64 n6) &&& (BitVec.ofInt 64 (255 : Int)))) : Nat) : Int)) n2 b1 fun b2 =>
 (cond (!b2)
 (k (1 : Int) (0 : Int) (IntKind.wrap IntKind.i64 ((IntKind.wrap IntKind.i64 ((Int.fdiv n4 (256 : Int)) * (256 : Int))) + (IntKind.wrap IntKind.i64 ((4 : Int) * (IntKind.wrap IntKind.i64 (((BitVec.toNat ((BitVec.ofInt 64 (Int.fdiv n1 (256 : Int))) &&& (BitVec.ofInt 64 (31 : Int)))) : Nat) : Int)))))) (0 : Int) (0 : Int) false n (Int.fdiv n4 (256 : Int)) (2 : Int))
 (g_impl_yframes_w N b l fun n7 =>
 (cond (decide (((Int.fdiv n6 (256 : Int)) ≥ n7)))
 (k (2 : Int) (0 : Int) (IntKind.wrap IntKind.i64 ((IntKind.wrap IntKind.i64 ((Int.fdiv n4 (256 : Int)) * (256 : Int))) + (IntKind.wrap IntKind.i64 ((4 : Int) * (IntKind.wrap IntKind.i64 (((BitVec.toNat ((BitVec.ofInt 64 (Int.fdiv n1 (256 : Int))) &&& (BitVec.ofInt 64 (31 : Int)))) : Nat) : Int)))))) (0 : Int) (0 : Int) false n (Int.fdiv n4 (256 : Int)) (2 : Int))
 (g_impl_yputs N n2 fun n8 =>
 (k (0 : Int) (IntKind.wrap IntKind.i64 ((IntKind.wrap IntKind.i64 ((Int.fdiv n6 (256 : Int)) * (256 : Int))) + (IntKind.wrap IntKind.i64 (((BitVec.toNat ((BitVec.ofInt 64 n1) &&& (BitVec.ofInt 64 (255 : Int)))) : Nat) : Int)))) (IntKind.wrap IntKind.i64 ((IntKind.wrap IntKind.i64 ((Int.fdiv n4 (256 : Int)) * (256 : Int))) + (IntKind.wrap IntKind.i64 ((4 : Int) * (IntKind.wrap IntKind.i64 (((BitVec.toNat ((BitVec.ofInt 64 (Int.fdiv n1 (256 : Int))) &&& (BitVec.ofInt 64 (31 : Int)))) : Nat) : Int)))))) n6 (IntKind.wrap IntKind.i64 (((BitVec.toNat ((BitVec.ofInt 64 n6) ||| (BitVec.ofInt 64 n8))) : Nat) : Int)) false n (Int.fdiv n4 (256 : Int)) (2 : Int))))))))))
 (cond ((Int.tmod (Int.fdiv n4 (256 : Int)) (32 : Int)) != (0 : Int))
 (k (1 : Int) (0 : Int) (IntKind.wrap IntKind.i64 ((IntKind.wrap IntKind.i64 (n * (256 : Int))) + (IntKind.wrap IntKind.i64 ((4 : Int) * (IntKind.wrap IntKind.i64 (((BitVec.toNat ((BitVec.ofInt 64 (Int.fdiv n1 (8192 : Int))) &&& (BitVec.ofInt 64 (31 : Int)))) : Nat) : Int)))))) (0 : Int) (0 : Int) false n (0 : Int) (1 : Int))
 (g_impl_ylets N (IntKind.wrap IntKind.i64 (((BitVec.toNat ((BitVec.ofInt 64 n4) &&& (BitVec.ofInt 64 (255 : Int)))) : Nat) : Int)) n2 b1 fun b3 =>
 (cond (!b3)
 (k (1 : Int) (0 : Int) (IntKind.wrap IntKind.i64 ((IntKind.wrap IntKind.i64 (n * (256 : Int))) + (IntKind.wrap IntKind.i64 ((4 : Int) * (IntKind.wrap IntKind.i64 (((BitVec.toNat ((BitVec.ofInt 64 (Int.fdiv n1 (8192 : Int))) &&& (BitVec.ofInt 64 (31 : Int)))) : Nat) : Int)))))) (0 : Int) (0 : Int) false n (0 : Int) (1 : Int))
 (g_impl_yframes_w N b l fun n9 =>
 (cond (decide (((IntKind.wrap IntKind.i64 ((Int.fdiv n4 (256 : Int)) + (IntKind.wrap IntKind.i64 (((BitVec.toNat ((BitVec.ofInt 64 (Int.fdiv n1 (256 : Int))) &&& (BitVec.ofInt 64 (31 : Int)))) : Nat) : Int)))) ≥ n9)))
 (k (2 : Int) (0 : Int) (IntKind.wrap IntKind.i64 ((IntKind.wrap IntKind.i64 (n * (256 : Int))) + (IntKind.wrap IntKind.i64 ((4 : Int) * (IntKind.wrap IntKind.i64 (((BitVec.toNat ((BitVec.ofInt 64 (Int.fdiv n1 (8192 : Int))) &&& (BitVec.ofInt 64 (31 : Int)))) : Nat) : Int)))))) (0 : Int) (0 : Int) false n (0 : Int) (1 : Int))
 (g_impl_yputs N n2 fun n10 =>
 (k (0 : Int) (IntKind.wrap IntKind.i64 ((IntKind.wrap IntKind.i64 ((IntKind.wrap IntKind.i64 ((Int.fdiv n4 (256 : Int)) + (IntKind.wrap IntKind.i64 (((BitVec.toNat ((BitVec.ofInt 64 (Int.fdiv n1 (256 : Int))) &&& (BitVec.ofInt 64 (31 : Int)))) : Nat) : Int)))) * (256 : Int))) + (IntKind.wrap IntKind.i64 (((BitVec.toNat ((BitVec.ofInt 64 n1) &&& (BitVec.ofInt 64 (255 : Int)))) : Nat) : Int)))) (IntKind.wrap IntKind.i64 ((IntKind.wrap IntKind.i64 (n * (256 : Int))) + (IntKind.wrap IntKind.i64 ((4 : Int) * (IntKind.wrap IntKind.i64 (((BitVec.toNat ((BitVec.ofInt 64 (Int.fdiv n1 (8192 : Int))) &&& (BitVec.ofInt 64 (31 : Int)))) : Nat) : Int)))))) n4 (IntKind.wrap IntKind.i64 (((BitVec.toNat ((BitVec.ofInt 64 n4) ||| (BitVec.ofInt 64 n10))) : Nat) : Int)) true n (0 : Int) (1 : Int)))))))))))))
noncomputable def ga_g_impl_ylookup_w (N : Nat) (G_impl_yputs : ∀ {R : Type} (n : Int) (k : Int → Option R), Option R) (G_impl_ylets : ∀ {R : Type} (n : Int) (n1 : Int) (b : Bool) (k : Bool → Option R), Option R) (G_impl_ygetWord_w : ∀ {R : Type} (b : Bool) (n : Int) (l : List Int) (k : Int → Option R), Option R) (G_impl_yframes_w : ∀ {R : Type} (b : Bool) (l : List Int) (k : Int → Option R), Option R) {R : Type} (b : Bool) (n : Int) (n1 : Int) (n2 : Int) (b1 : Bool) (l : List Int) (k : Int → Int → Int → Int → Int → Bool → Int → Int → Int → Option R) : Option R :=
 (G_impl_yframes_w b l fun n3 =>
 (cond (decide ((n ≥ n3)))
 (k (2 : Int) (0 : Int) (0 : Int) (0 : Int) (0 : Int) false (0 : Int) (0 : Int) (0 : Int))
 (G_impl_ygetWord_w b (IntKind.wrap IntKind.i64 ((IntKind.wrap IntKind.i64 (n * (256 : Int))) + (IntKind.wrap IntKind.i64 ((4 : Int) * (IntKind.wrap IntKind.i64 (((BitVec.toNat ((BitVec.ofInt 64 (Int.fdiv n1 (8192 : Int))) &&& (BitVec.ofInt 64 (31 : Int)))) : Nat) : Int)))))) l fun n4 =>
 (oK (cond ((IntKind.wrap IntKind.i64 (((BitVec.toNat ((BitVec.ofInt 64 n4) &&& (BitVec.ofInt 64 (1 : Int)))) : Nat) : Int)) != (0 : Int))
 (some ((IntKind.wrap IntKind.i64 (((BitVec.toNat ((BitVec.ofInt 64 n4) &&& (BitVec.ofInt 64 (14 : Int)))) : Nat) : Int)) == (0 : Int)))
 (some false)) fun j =>
 (cond j
 (G_impl_yframes_w b l fun n5 =>
 (cond (decide (((Int.fdiv n4 (256 : Int)) ≥ n5)))
 (k (2 : Int) (0 : Int) (IntKind.wrap IntKind.i64 ((IntKind.wrap IntKind.i64 (n * (256 : Int))) + (IntKind.wrap IntKind.i64 ((4 : Int) * (IntKind.wrap IntKind.i64 (((BitVec.toNat ((BitVec.ofInt 64 (Int.fdiv n1 (8192 : Int))) &&& (BitVec.ofInt 64 (31 : Int)))) : Nat) : Int)))))) (0 : Int) (0 : Int) false n (0 : Int) (1 : Int))
 (G_impl_ygetWord_w b (IntKind.wrap IntKind.i64 ((IntKind.wrap IntKind.i64 ((Int.fdiv n4 (256 : Int)) * (256 : Int))) + (IntKind.wrap IntKind.i64 ((4 : Int) * (IntKind.wrap IntKind.i64 (((BitVec.toNat ((BitVec.ofInt 64 (Int.fdiv n1 (256 : Int))) &&& (BitVec.ofInt 64 (31 : Int)))) : Nat) : Int)))))) l fun n6 =>
 (G_impl_ylets (IntKind.wrap IntKind.i64 (((BitVec.toNat ((BitVec.ofInt 64 n6) &&& (BitVec.ofInt 64 (255 : Int)))) : Nat) : Int)) n2 b1 fun b2 =>
 (cond (!b2)
 (k (1 : Int) (0 : Int) (IntKind.wrap IntKind.i64 ((IntKind.wrap IntKind.i64 ((Int.fdiv n4 (256 : Int)) * (256 : Int))) + (IntKind.wrap IntKind.i64 ((4 : Int) * (IntKind.wrap IntKind.i64 (((BitVec.toNat ((BitVec.ofInt 64 (Int.fdiv n1 (256 : Int))) &&& (BitVec.ofInt 64 (31 : Int)))) : Nat) : Int)))))) (0 : Int) (0 : Int) false n (Int.fdiv n4 (256 : Int)) (2 : Int))
 (G_impl_yframes_w b l fun n7 =>
 (cond (decide (((Int.fdiv n6 (256 : Int)) ≥ n7)))
 (k (2 : Int) (0 : Int) (IntKind.wrap IntKind.i64 ((IntKind.wrap IntKind.i64 ((Int.fdiv n4 (256 : Int)) * (256 : Int))) + (IntKind.wrap IntKind.i64 ((4 : Int) * (IntKind.wrap IntKind.i64 (((BitVec.toNat ((BitVec.ofInt 64 (Int.fdiv n1 (256 : Int))) &&& (BitVec.ofInt 64 (31 : Int)))) : Nat) : Int)))))) (0 : Int) (0 : Int) false n (Int.fdiv n4 (256 : Int)) (2 : Int))
 (G_impl_yputs n2 fun n8 =>
 (k (0 : Int) (IntKind.wrap IntKind.i64 ((IntKind.wrap IntKind.i64 ((Int.fdiv n6 (256 : Int)) * (256 : Int))) + (IntKind.wrap IntKind.i64 (((BitVec.toNat ((BitVec.ofInt 64 n1) &&& (BitVec.ofInt 64 (255 : Int)))) : Nat) : Int)))) (IntKind.wrap IntKind.i64 ((IntKind.wrap IntKind.i64 ((Int.fdiv n4 (256 : Int)) * (256 : Int))) + (IntKind.wrap IntKind.i64 ((4 : Int) * (IntKind.wrap IntKind.i64 (((BitVec.toNat ((BitVec.ofInt 64 (Int.fdiv n1 (256 : Int))) &&& (BitVec.ofInt 64 (31 : Int)))) : Nat) : Int)))))) n6 (IntKind.wrap IntKind.i64 (((BitVec.toNat ((BitVec.ofInt 64 n6) ||| (BitVec.ofInt 64 n8))) : Nat) : Int)) false n (Int.fdiv n4 (256 : Int)) (2 : Int))))))))))
 (cond ((Int.tmod (Int.fdiv n4 (256 : Int)) (32 : Int)) != (0 : Int))
 (k (1 : Int) (0 : Int) (IntKind.wrap IntKind.i64 ((IntKind.wrap IntKind.i64 (n * (256 : Int))) + (IntKind.wrap IntKind.i64 ((4 : Int) * (IntKind.wrap IntKind.i64 (((BitVec.toNat ((BitVec.ofInt 64 (Int.fdiv n1 (8192 : Int))) &&& (BitVec.ofInt 64 (31 : Int)))) : Nat) : Int)))))) (0 : Int) (0 : Int) false n (0 : Int) (1 : Int))
 (G_impl_ylets (IntKind.wrap IntKind.i64 (((BitVec.toNat ((BitVec.ofInt 64 n4) &&& (BitVec.ofInt 64 (255 : Int)))) : Nat) : Int)) n2 b1 fun b3 =>
 (cond (!b3)
 (k (1 : Int) (0 : Int) (IntKind.wrap IntKind.i64 ((IntKind.wrap IntKind.i64 (n * (256 : Int))) + (IntKind.wrap IntKind.i64 ((4 : Int) * (IntKind.wrap IntKind.i64 (((BitVec.toNat ((BitVec.ofInt 64 (Int.fdiv n1 (8192 : Int))) &&& (BitVec.ofInt 64 (31 : Int)))) : Nat) : Int)))))) (0 : Int) (0 : Int) false n (0 : Int) (1 : Int))
 (G_impl_yframes_w b l fun n9 =>
 (cond (decide (((IntKind.wrap IntKind.i64 ((Int.fdiv n4 (256 : Int)) + (IntKind.wrap IntKind.i64 (((BitVec.toNat ((BitVec.ofInt 64 (Int.fdiv n1 (256 : Int))) &&& (BitVec.ofInt 64 (31 : Int)))) : Nat) : Int)))) ≥ n9)))
 (k (2 : Int) (0 : Int) (IntKind.wrap IntKind.i64 ((IntKind.wrap IntKind.i64 (n * (256 : Int))) + (IntKind.wrap IntKind.i64 ((4 : Int) * (IntKind.wrap IntKind.i64 (((BitVec.toNat ((BitVec.ofInt 64 (Int.fdiv n1 (8192 : Int))) &&& (BitVec.ofInt 64 (31 : Int)))) : Nat) : Int)))))) (0 : Int) (0 : Int) false n (0 : Int) (1 : Int))
 (G_impl_yputs n2 fun n10 =>
 (k (0 : Int) (IntKind.wrap IntKind.i64 ((IntKind.wrap IntKind.i64 ((IntKind.wrap IntKind.i64 ((Int.fdiv n4 (256 : Int)) + (IntKind.wrap IntKind.i64 (((BitVec.toNat ((BitVec.ofInt 64 (Int.fdiv n1 (256 : Int))) &&& (BitVec.ofInt 64 (31 : Int)))) : Nat) : Int)))) * (256 : Int))) + (IntKind.wrap IntKind.i64 (((BitVec.toNat ((BitVec.ofInt 64 n1) &&& (BitVec.ofInt 64 (255 : Int)))) : Nat) : Int)))) (IntKind.wrap IntKind.i64 ((IntKind.wrap IntKind.i64 (n * (256 : Int))) + (IntKind.wrap IntKind.i64 ((4 : Int) * (IntKind.wrap IntKind.i64 (((BitVec.toNat ((BitVec.ofInt 64 (Int.fdiv n1 (8192 : Int))) &&& (BitVec.ofInt 64 (31 : Int)))) : Nat) : Int)))))) n4 (IntKind.wrap IntKind.i64 (((BitVec.toNat ((BitVec.ofInt 64 n4) ||| (BitVec.ofInt 64 n10))) : Nat) : Int)) true n (0 : Int) (1 : Int)))))))))))))
theorem ea_e_impl_ylookup_w (N : Nat) (G_impl_yputs : ∀ {R : Type} (n : Int) (k : Int → Option R), Option R) (G_impl_ylets : ∀ {R : Type} (n : Int) (n1 : Int) (b : Bool) (k : Bool → Option R), Option R) (G_impl_ygetWord_w : ∀ {R : Type} (b : Bool) (n : Int) (l : List Int) (k : Int → Option R), Option R) (G_impl_yframes_w : ∀ {R : Type} (b : Bool) (l : List Int) (k : Int → Option R), Option R) {R : Type} (b : Bool) (n : Int) (n1 : Int) (n2 : Int) (b1 : Bool) (l : List Int) (K : AV → Hp E → Option R) :
    runFnI (E := E) (OA_impl_ylookup_w N G_impl_yputs G_impl_ylets G_impl_ygetWord_w G_impl_yframes_w) (noIt) sl_impl_ylookup_w J_impl_ylookup_w Try.f32 [(AV.sc (SV.slc 0 none b)), (AV.sc (SV.int IntKind.i64 n)), (AV.sc (SV.int IntKind.i64 n1)), (AV.sc (SV.int IntKind.i64 n2)), (AV.sc (SV.bool b1))] [(some (HE.mk false (HB.rows (B.u8 l))))] K =
      ga_g_impl_ylookup_w N G_impl_yputs G_impl_ylets G_impl_ygetWord_w G_impl_yframes_w b n n1 n2 b1 l (fun n11 n12 n13 n14 n15 b4 n16 n17 n18 => K (AV.agg [(SV.int IntKind.i64 n11), (SV.int IntKind.i64 n12), (SV.int IntKind.i64 n13), (SV.int IntKind.i64 n14), (SV.int IntKind.i64 n15), (SV.bool b4), (SV.int IntKind.i64 n16), (SV.int IntKind.i64 n17), (SV.int IntKind.i64 n18)]) [(some (HE.mk false (HB.rows (B.u8 l))))]) := by kernel_rfl
theorem e_impl_ylookup_w (N : Nat) {R : Type} (b : Bool) (n : Int) (n1 : Int) (n2 : Int) (b1 : Bool) (l : List Int) (K : AV → Hp E → Option R) :
    runFnI (E := E) (O_impl_ylookup_w N) (noIt) sl_impl_ylookup_w J_impl_ylookup_w Try.f32 [(AV.sc (SV.slc 0 none b)), (AV.sc (SV.int IntKind.i64 n)), (AV.sc (SV.int IntKind.i64 n1)), (AV.sc (SV.int IntKind.i64 n2)), (AV.sc (SV.bool b1))] [(some (HE.mk false (HB.rows (B.u8 l))))] K =
      g_impl_ylookup_w N b n n1 n2 b1 l (fun n11 n12 n13 n14 n15 b4 n16 n17 n18 => K (AV.agg [(SV.int IntKind.i64 n11), (SV.int IntKind.i64 n12), (SV.int IntKind.i64 n13), (SV.int IntKind.i64 n14), (SV.int IntKind.i64 n15), (SV.bool b4), (SV.int IntKind.i64 n16), (SV.int IntKind.i64 n17), (SV.int IntKind.i64 n18)]) [(some (HE.mk false (HB.rows (B.u8 l))))]) := castPr (by kernel_rfl) (ea_e_impl_ylookup_w N (g_impl_yputs N) (g_impl_ylets N) (g_impl_ygetWord_w N) (g_impl_yframes_w N) b n n1 n2 b1 l K)
noncomputable def o_impl_ylookup_w (N : Nat) {R : Type} (args : List AV) (H : Hp E) (K : AV → Hp E → Option R) : Option R :=
 match args, H with
 | [(AV.sc (SV.slc 0 none b)), (AV.sc (SV.int IntKind.i64 n)), (AV.sc (SV.int IntKind.i64 n1)), (AV.sc (SV.int IntKind.i64 n2)), (AV.sc (SV.bool b1))], [(some (HE.mk false (HB.rows (B.u8 l))))] => g_impl_ylookup_w N b n n1 n2 b1 l (fun n11 n12 n13 n14 n15 b4 n16 n17 n18 => K (AV.agg [(SV.int IntKind.i64 n11), (SV.int IntKind.i64 n12), (SV.int IntKind.i64 n13), (SV.int IntKind.i64 n14), (SV.int IntKind.i64 n15), (SV.bool b4), (SV.int IntKind.i64 n16), (SV.int IntKind.i64 n17), (SV.int IntKind.i64 n18)]) [(some (HE.mk false (HB.rows (B.u8 l))))])
 | _, _ => none
theorem o_impl_ylookup_w_ok (N : Nat) : FnOk E 32 (o_impl_ylookup_w N) := by
  intro R args H K r h
  unfold o_impl_ylookup_w at h
  dsimp only at h
  split at h
  · exact fnB_ok (ids := []) (top := []) ok (O_impl_ylookup_w_ok N) (jn_ok _ _ _) Try.func32 (by kernel_rfl) (IT := noIt) (sl := sl_impl_ylookup_w) (J := J_impl_ylookup_w) (K := K) (H := [(some (HE.mk false (HB.rows (B.u8 _))))]) (noIt_ok) (by kernel_rfl) rfl ((e_impl_ylookup_w N _ _ _ _ _ _ K).trans h)
  · cases h
/-! ### loop.example/g00038/impl.yputWord -/
abbrev sl_impl_yputWord_w : SlotT := []
abbrev J_impl_yputWord_w : JT := jn [] [] []
noncomputable def O_impl_yputWord_w (N : Nat) : Orc E := noFn
theorem O_impl_yputWord_w_ok (N : Nat) : OrcOk (O_impl_yputWord_w N) := noFn_ok
noncomputable def g_impl_yputWord_w (N : Nat) {R : Type} (b : Bool) (n : Int) (n1 : Int) (l : List Int) (k : (List Int) → Option R) : Option R :=
 (cond ((decide (((0 : Int) ≤ n))) && (decide ((n < (((List.length l) : Nat) : Int)))))
 (elemK l (Int.toNat n) fun x =>
 (cond (Nat.blt (Int.toNat n) (List.length l))
 (cond ((decide (((0 : Int) ≤ (IntKind.wrap IntKind.i64 (n + (1 : Int)))))) && (decide (((IntKind.wrap IntKind.i64 (n + (1 : Int))) < (((List.length (nset l (Int.toNat n) (IntKind.wrap IntKind.u8 n1))) : Nat) : Int)))))
 (elemK (nset l (Int.toNat n) (IntKind.wrap IntKind.u8 n1)) (Int.toNat (IntKind.wrap IntKind.i64 (n + (1 : Int)))) fun x1 =>
 (cond (Nat.blt (Int.toNat (IntKind.wrap IntKind.i64 (n + (1 : Int)))) (List.length (nset l (Int.toNat n) (IntKind.wrap IntKind.u8 n1))))
 (cond ((decide (((0 : Int) ≤ (IntKind.wrap IntKind.i64 (n + (2 : Int)))))) && (decide (((IntKind.wrap IntKind.i64 (n + (2 : Int))) < (((List.length (nset (nset l (Int.toNat n) (IntKind.wrap IntKind.u8 n1)) (Int.toNat (IntKind.wrap IntKind.i64 (n + (1 : Int)))) (IntKind.wrap IntKind.u8 (Int.fdiv n1 (256 : Int))))) : Nat) : Int)))))
 (elemK (nset (nset l (Int.toNat n) (IntKind.wrap IntKind.u8 n1)) (Int.toNat (IntKind.wrap IntKind.i64 (n + (1 : Int)))) (IntKind.wrap IntKind.u8 (Int.fdiv n1 (256 : Int)))) (Int.toNat (IntKind.wrap IntKind.i64 (n + (2 : Int)))) fun x2 =>
 (cond (Nat.blt (Int.toNat (IntKind.wrap IntKind.i64 (n + (2 : Int)))) (List.length (nset (nset l (Int.toNat n) (IntKind.wrap IntKind.u8 n1)) (Int.toNat (IntKind.wrap IntKind.i64 (n + (1 : Int)))) (IntKind.wrap IntKind.u8 (Int.fdiv n1 (256 : Int))))))
 (cond ((decide (((0 : Int) ≤ (IntKind.wrap IntKind.i64 (n + (3 : Int)))))) && (decide (((IntKind.wrap IntKind.i64 (n + (3 : Int))) < (((List.length (nset (nset (nset l (Int.toNat n) (IntKind.wrap IntKind.u8 n1)) (Int.toNat (IntKind.wrap IntKind.i64 (n + (1 : Int)))) (IntKind.wrap IntKind.u8 (Int.fdiv n1 (256 : Int)))) (Int.toNat (IntKind.wrap IntKind.i64 (n + (2 : Int)))) (IntKind.wrap IntKind.u8 (Int.fdiv n1 (65536 : Int))))) : Nat) : Int)))))
 (elemK (nset (nset (nset l (Int.toNat n) (IntKind.wrap IntKind.u8 n1)) (Int.toNat (IntKind.wrap IntKind.i64 (n + (1 : Int)))) (IntKind.wrap IntKind.u8 (Int.fdiv n1 (256 : Int)))) (Int.toNat (IntKind.wrap IntKind.i64 (n + (2 : Int)))) (IntKind.wrap IntKind.u8 (Int.fdiv n1 (65536 : Int)))) (Int.toNat (IntKind.wrap IntKind.i64 (n + (3 : Int)))) fun x3 =>
 (cond (Nat.blt (Int.toNat (IntKind.wrap IntKind.i64 (n + (3 : Int)))) (List.length (nset (nset (nset l (Int.toNat n) (IntKind.wrap IntKind.u8 n1)) (Int.toNat (IntKind.wrap IntKind.i64 (n + (1 : Int)))) (IntKind.wrap IntKind.u8 (Int.fdiv n1 (256 : Int)))) (Int.toNat (IntKind.wrap IntKind.i64 (n + (2 : Int)))) (IntKind.wrap IntKind.u8 (Int.fdiv n1 (65536 : Int))))))
 (k (nset (nset (nset (nset l (Int.toNat n) (IntKind.wrap IntKind.u8 n1)) (Int.toNat (IntKind.wrap IntKind.i64 (n + (1 : Int)))) (IntKind.wrap IntKind.u8 (Int.fdiv n1 (256 : Int)))) (Int.toNat (IntKind.wrap IntKind.i64 (n + (2 : Int)))) (IntKind.wrap IntKind.u8 (Int.fdiv n1 (65536 : Int)))) (Int.toNat (IntKind.wrap IntKind.i64 (n + (3 : Int)))) (IntKind.wrap IntKind.u8 (Int.fdiv n1 (16777216 : Int)))))
 none))
 none)
 none))
 none)
 none))
 none)
 none))
 none)
theorem e_impl_yputWord_w (N : Nat) {R : Type} (b : Bool) (n : Int) (n1 : Int) (l : List Int) (K : AV → Hp E → Option R) :
    runFnI (E := E) (O_impl_yputWord_w N) (noIt) sl_impl_yputWord_w J_impl_yputWord_w Try.f34 [(AV.sc (SV.slc 0 none b)), (AV.sc (SV.int IntKind.i64 n)), (AV.sc (SV.int IntKind.i64 n1))] [(some (HE.mk false (HB.rows (B.u8 l))))] K =
      g_impl_yputWord_w N b n n1 l (fun l1 => K (AV.tup []) [(some (HE.mk false (HB.rows (B.u8 l1))))]) := by kernel_rfl
noncomputable def o_impl_yputWord_w (N : Nat) {R : Type} (args : List AV) (H : Hp E) (K : AV → Hp E → Option R) : Option R :=
 match args, H with
 | [(AV.sc (SV.slc 0 none b)), (AV.sc (SV.int IntKind.i64 n)), (AV.sc (SV.int IntKind.i64 n1))], [(some (HE.mk false (HB.rows (B.u8 l))))] => g_impl_yputWord_w N b n n1 l (fun l1 => K (AV.tup []) [(some (HE.mk false (HB.rows (B.u8 l1))))])
 | _, _ => none
theorem o_impl_yputWord_w_ok (N : Nat) : FnOk E 34 (o_impl_yputWord_w N) := by
  intro R args H K r h
  unfold o_impl_yputWord_w at h
  dsimp only at h
  split at h
  · exact fnB_ok (ids := []) (top := []) ok (O_impl_yputWord_w_ok N) (jn_ok _ _ _) Try.func34 (by kernel_rfl) (IT := noIt) (sl := sl_impl_yputWord_w) (J := J_impl_yputWord_w) (K := K) (H := [(some (HE.mk false (HB.rows (B.u8 _))))]) (noIt_ok) (by kernel_rfl) rfl ((e_impl_yputWord_w N _ _ _ _ K).trans h)
  · cases h
/-! ### loop.example/g00038/impl.WalkTwo$1 -/
abbrev sl_impl_WalkTwo_1_WWWw : SlotT := []
abbrev J_impl_WalkTwo_1_WWWw : JT := jn [] [] []
noncomputable def O_impl_WalkTwo_1_WWWw (N : Nat) : Orc E := addFn 34 (o_impl_yputWord_w N) (addFn 32 (o_impl_ylookup_w N) (noFn))
noncomputable def pa_impl_WalkTwo_1_WWWw__o_impl_yputWord_w (N : Nat) (G_impl_yputWord_w : ∀ {R : Type} (b : Bool) (n : Int) (n1 : Int) (l : List Int) (k : (List Int) → Option R), Option R) {R : Type} (args : List AV) (H : Hp E) (K : AV → Hp E → Option R) : Option R :=
 match args, H with
 | [(AV.sc (SV.slc 0 none b)), (AV.sc (SV.int IntKind.i64 n)), (AV.sc (SV.int IntKind.i64 n1))], [(some (HE.mk false (HB.rows (B.u8 l))))] => G_impl_yputWord_w b n n1 l (fun l1 => K (AV.tup []) [(some (HE.mk false (HB.rows (B.u8 l1))))])
 | _, _ => none
noncomputable def pa_impl_WalkTwo_1_WWWw__o_impl_ylookup_w (N : Nat) (G_impl_ylookup_w : ∀ {R : Type} (b : Bool) (n : Int) (n1 : Int) (n2 : Int) (b1 : Bool) (l : List Int) (k : Int → Int → Int → Int → Int → Bool → Int → Int → Int → Option R), Option R) {R : Type} (args : List AV) (H : Hp E) (K : AV → Hp E → Option R) : Option R :=
 match args, H with
 | [(AV.sc (SV.slc 0 none b)), (AV.sc (SV.int IntKind.i64 n)), (AV.sc (SV.int IntKind.i64 n1)), (AV.sc (SV.int IntKind.i64 n2)), (AV.sc (SV.bool b1))], [(some (HE.mk false (HB.rows (B.u8 l))))] => G_impl_ylookup_w b n n1 n2 b1 l (fun n11 n12 n13 n14 n15 b4 n16 n17 n18 => K (AV.agg [(SV.int IntKind.i64 n11), (SV.int IntKind.i64 n12), (SV.int IntKind.i64 n13), (SV.int IntKind.i64 n14), (SV.int IntKind.i64 n15), (SV.bool b4), (SV.int IntKind.i64 n16), (SV.int IntKind.i64 n17), (SV.int IntKind.i64 n18)]) [(some (HE.mk false (HB.rows (B.u8 l))))])
 | _, _ => none
noncomputable def OA_impl_WalkTwo_1_WWWw (N : Nat) (G_impl_yputWord_w : ∀ {R : Type} (b : Bool) (n : Int) (n1 : Int) (l : List Int) (k : (List Int) → Option R), Option R) (G_impl_ylookup_w : ∀ {R : Type} (b : Bool) (n : Int) (n1 : Int) (n2 : Int) (b1 : Bool) (l : List Int) (k : Int → Int → Int → Int → Int → Bool → Int → Int → Int → Option R), Option R) : Orc E := addFn 34 (pa_impl_WalkTwo_1_WWWw__o_impl_yputWord_w N G_impl_yputWord_w) (addFn 32 (pa_impl_WalkTwo_1_WWWw__o_impl_ylookup_w N G_impl_ylookup_w) (noFn))
theorem O_impl_WalkTwo_1_WWWw_ok (N : Nat) : OrcOk (O_impl_WalkTwo_1_WWWw N) := addFn_ok (o_impl_yputWord_w_ok N) (addFn_ok (o_impl_ylookup_w_ok N) (noFn_ok))
noncomputable def g_impl_WalkTwo_1_WWWw (N : Nat) {R : Type} (n : Int) (n1 : Int) (b : Bool) (n2 : Int) (n3 : Int) (n4 : Int) (n5 : Int) (n6 : Int) (s : ByteArray) (l : List Int) (k : Int → Bool → Int → Int → Int → (List Int) → Option R) : Option R :=
 (g_impl_ylookup_w N b n2 n n1 false l fun n7 n8 n9 n10 n11 b1 n12 n13 n14 =>
 (cond (n7 != (0 : Int))
 (k (0 : Int) false (3 : Int) n (IntKind.wrap IntKind.i64 (n6 + n14)) l)
 (g_impl_yputWord_w N b n9 n11 l fun l1 =>
 (k n8 true n3 n4 (IntKind.wrap IntKind.i64 (n6 + n14)) l1))))
noncomputable def ga_g_impl_WalkTwo_1_WWWw (N : Nat) (G_impl_yputWord_w : ∀ {R : Type} (b : Bool) (n : Int) (n1 : Int) (l : List Int) (k : (List Int) → Option R), Option R) (G_impl_ylookup_w : ∀ {R : Type} (b : Bool) (n : Int) (n1 : Int) (n2 : Int) (b1 : Bool) (l : List Int) (k : Int → Int → Int → Int → Int → Bool → Int → Int → Int → Option R), Option R) {R : Type} (n : Int) (n1 : Int) (b : Bool) (n2 : Int) (n3 : Int) (n4 : Int) (n5 : Int) (n6 : Int) (s : ByteArray) (l : List Int) (k : Int → Bool → Int → Int → Int → (List Int) → Option R) : Option R :=
 (G_impl_ylookup_w b n2 n n1 false l fun n7 n8 n9 n10 n11 b1 n12 n13 n14 =>
 (cond (n7 != (0 : Int))
 (k (0 : Int) false (3 : Int) n (IntKind.wrap IntKind.i64 (n6 + n14)) l)
 (G_impl_yputWord_w b n9 n11 l fun l1 =>
 (k n8 true n3 n4 (IntKind.wrap IntKind.i64 (n6 + n14)) l1))))
theorem ea_e_impl_WalkTwo_1_WWWw (N : Nat) (G_impl_yputWord_w : ∀ {R : Type} (b : Bool) (n : Int) (n1 : Int) (l : List Int) (k : (List Int) → Option R), Option R) (G_impl_ylookup_w : ∀ {R : Type} (b : Bool) (n : Int) (n1 : Int) (n2 : Int) (b1 : Bool) (l : List Int) (k : Int → Int → Int → Int → Int → Bool → Int → Int → Int → Option R), Option R) {R : Type} (n : Int) (n1 : Int) (b : Bool) (n2 : Int) (n3 : Int) (n4 : Int) (n5 : Int) (n6 : Int) (s : ByteArray) (l : List Int) (K : AV → Hp E → Option R) :
    runFnI (E := E) (OA_impl_WalkTwo_1_WWWw N G_impl_yputWord_w G_impl_ylookup_w) (noIt) sl_impl_WalkTwo_1_WWWw J_impl_WalkTwo_1_WWWw Try.f43 [(AV.sc (SV.int IntKind.i64 n)), (AV.sc (SV.int IntKind.i64 n1)), (AV.sc (SV.ptr 0 0 0)), (AV.sc (SV.ptr 1 0 0)), (AV.sc (SV.ptr 2 0 0))] [(some (HE.mk false (HB.exp none [(SV.slc 3 none b)]))), (some (HE.mk false (HB.exp none [(SV.int IntKind.i64 n2)]))), (some (HE.mk false (HB.exp none [(SV.int IntKind.i64 n3), (SV.int IntKind.i64 n4), (SV.int IntKind.i64 n5), (SV.int IntKind.i64 n6), (SV.str s)]))), (some (HE.mk false (HB.rows (B.u8 l))))] K =
      ga_g_impl_WalkTwo_1_WWWw N G_impl_yputWord_w G_impl_ylookup_w n n1 b n2 n3 n4 n5 n6 s l (fun n15 b2 n16 n17 n18 l2 => K (AV.tup [(false, [(SV.int IntKind.i64 n15)]), (false, [(SV.bool b2)])]) [(some (HE.mk false (HB.exp none [(SV.slc 3 none b)]))), (some (HE.mk false (HB.exp none [(SV.int IntKind.i64 n2)]))), (some (HE.mk false (HB.exp none [(SV.int IntKind.i64 n16), (SV.int IntKind.i64 n17), (SV.int IntKind.i64 n5), (SV.int IntKind.i64 n18), (SV.str s)]))), (some (HE.mk false (HB.rows (B.u8 l2))))]) := by kernel_rfl
theorem e_impl_WalkTwo_1_WWWw (N : Nat) {R : Type} (n : Int) (n1 : Int) (b : Bool) (n2 : Int) (n3 : Int) (n4 : Int) (n5 : Int) (n6 : Int) (s : ByteArray) (l : List Int) (K : AV → Hp E → Option R) :
    runFnI (E := E) (O_impl_WalkTwo_1_WWWw N) (noIt) sl_impl_WalkTwo_1_WWWw J_impl_WalkTwo_1_WWWw Try.f43 [(AV.sc (SV.int IntKind.i64 n)), (AV.sc (SV.int IntKind.i64 n1)), (AV.sc (SV.ptr 0 0 0)), (AV.sc (SV.ptr 1 0 0)), (AV.sc (SV.ptr 2 0 0))] [(some (HE.mk false (HB.exp none [(SV.slc 3 none b)]))), (some (HE.mk false (HB.exp none [(SV.int IntKind.i64 n2)]))), (some (HE.mk false (HB.exp none [(SV.int IntKind.i64 n3), (SV.int IntKind.i64 n4), (SV.int IntKind.i64 n5), (SV.int IntKind.i64 n6), (SV.str s)]))), (some (HE.mk false (HB.rows (B.u8 l))))] K =
      g_impl_WalkTwo_1_WWWw N n n1 b n2 n3 n4 n5 n6 s l (fun n15 b2 n16 n17 n18 l2 => K (AV.tup [(false, [(SV.int IntKind.i64 n15)]), (false, [(SV.bool b2)])]) [(some (HE.mk false (HB.exp none [(SV.slc 3 none b)]))), (some (HE.mk false (HB.exp none [(SV.int IntKind.i64 n2)]))), (some (HE.mk false (HB.exp none [(SV.int IntKind.i64 n16), (SV.int IntKind.i64 n17), (SV.int IntKind.i64 n5), (SV.int IntKind.i64 n18), (SV.str s)]))), (some (HE.mk false (HB.rows (B.u8 l2))))]) := castPr (by kernel_rfl) (ea_e_impl_WalkTwo_1_WWWw N (g_impl_yputWord_w N) (g_impl_ylookup_w N) n n1 b n2 n3 n4 n5 n6 s l K)
noncomputable def o_impl_WalkTwo_1_WWWw (N : Nat) {R : Type} (args : List AV) (H : Hp E) (K : AV → Hp E → Option R) : Option R :=
 match args, H with
 | [(AV.sc (SV.int IntKind.i64 n)), (AV.sc (SV.int IntKind.i64 n1)), (AV.sc (SV.ptr 0 0 0)), (AV.sc (SV.ptr 1 0 0)), (AV.sc (SV.ptr 2 0 0))], [(some (HE.mk false (HB.exp none [(SV.slc 3 none b)]))), (some (HE.mk false (HB.exp none [(SV.int IntKind.i64 n2)]))), (some (HE.mk false (HB.exp none [(SV.int IntKind.i64 n3), (SV.int IntKind.i64 n4), (SV.int IntKind.i64 n5), (SV.int IntKind.i64 n6), (SV.str s)]))), (some (HE.mk false (HB.rows (B.u8 l))))] => g_impl_WalkTwo_1_WWWw N n n1 b n2 n3 n4 n5 n6 s l (fun n15 b2 n16 n17 n18 l2 => K (AV.tup [(false, [(SV.int IntKind.i64 n15)]), (false, [(SV.bool b2)])]) [(some (HE.mk false (HB.exp none [(SV.slc 3 none b)]))), (some (HE.mk false (HB.exp none [(SV.int IntKind.i64 n2)]))), (some (HE.mk false (HB.exp none [(SV.int IntKind.i64 n16), (SV.int IntKind.i64 n17), (SV.int IntKind.i64 n5), (SV.int IntKind.i64 n18), (SV.str s)]))), (some (HE.mk false (HB.rows (B.u8 l2))))])
 | _, _ => none
theorem o_impl_WalkTwo_1_WWWw_ok (N : Nat) : FnOk E 43 (o_impl_WalkTwo_1_WWWw N) := by
  intro R args H K r h
  unfold o_impl_WalkTwo_1_WWWw at h
  dsimp only at h
  split at h
  · exact fnB_ok (ids := []) (top := []) ok (O_impl_WalkTwo_1_WWWw_ok N) (jn_ok _ _ _) Try.func43 (by kernel_rfl) (IT := noIt) (sl := sl_impl_WalkTwo_1_WWWw) (J := J_impl_WalkTwo_1_WWWw) (K := K) (H := [(some (HE.mk false (HB.exp none [(SV.slc 3 none _)]))), (some (HE.mk false (HB.exp none [(SV.int IntKind.i64 _)]))), (some (HE.mk false (HB.exp none [(SV.int IntKind.i64 _), (SV.int IntKind.i64 _), (SV.int IntKind.i64 _), (SV.int IntKind.i64 _), (SV.str _)]))), (some (HE.mk false (HB.rows (B.u8 _))))]) (noIt_ok) (by kernel_rfl) rfl ((e_impl_WalkTwo_1_WWWw N _ _ _ _ _ _ _ _ _ _ K).trans h)
  · cases h
/-! ### loop.example/g00038/impl.WalkTwo$2$1 -/
abbrev sl_impl_WalkTwo_2_1_WWWWw : SlotT := []
abbrev J_impl_WalkTwo_2_1_WWWWw : JT := jn [] [] []
noncomputable def O_impl_WalkTwo_2_1_WWWWw (N : Nat) : Orc E := addFn 46 (o_impl_ygetWord_w N) (addFn 43 (o_impl_WalkTwo_1_WWWw N) (noFn))
noncomputable def pa_impl_WalkTwo_2_1_WWWWw__o_impl_ygetWord_w (N : Nat) (G_impl_ygetWord_w : ∀ {R : Type} (b : Bool) (n : Int) (l : List Int) (k : Int → Option R), Option R) {R : Type} (args : List AV) (H : Hp E) (K : AV → Hp E → Option R) : Option R :=
 match args, H with
 | [(AV.sc (SV.slc 0 none b)), (AV.sc (SV.int IntKind.i64 n))], [(some (HE.mk false (HB.rows (B.u8 l))))] => G_impl_ygetWord_w b n l (fun n1 => K (AV.sc (SV.int IntKind.i64 n1)) [(some (HE.mk false (HB.rows (B.u8 l))))])
 | _, _ => none
noncomputable def pa_impl_WalkTwo_2_1_WWWWw__o_impl_WalkTwo_1_WWWw (N : Nat) (G_impl_WalkTwo_1_WWWw : ∀ {R : Type} (n : Int) (n1 : Int) (b : Bool) (n2 : Int) (n3 : Int) (n4 : Int) (n5 : Int) (n6 : Int) (s : ByteArray) (l : List Int) (k : Int → Bool → Int → Int → Int → (List Int) → Option R), Option R) {R : Type} (args : List AV) (H : Hp E) (K : AV → Hp E → Option R) : Option R :=
 match args, H with
 | [(AV.sc (SV.int IntKind.i64 n)), (AV.sc (SV.int IntKind.i64 n1)), (AV.sc (SV.ptr 0 0 0)), (AV.sc (SV.ptr 1 0 0)), (AV.sc (SV.ptr 2 0 0))], [(some (HE.mk false (HB.exp none [(SV.slc 3 none b)]))), (some (HE.mk false (HB.exp none [(SV.int IntKind.i64 n2)]))), (some (HE.mk false (HB.exp none [(SV.int IntKind.i64 n3), (SV.int IntKind.i64 n4), (SV.int IntKind.i64 n5), (SV.int IntKind.i64 n6), (SV.str s)]))), (some (HE.mk false (HB.rows (B.u8 l))))] => G_impl_WalkTwo_1_WWWw n n1 b n2 n3 n4 n5 n6 s l (fun n15 b2 n16 n17 n18 l2 => K (AV.tup [(false, [(SV.int IntKind.i64 n15)]), (false, [(SV.bool b2)])]) [(some (HE.mk false (HB.exp none [(SV.slc 3 none b)]))), (some (HE.mk false (HB.exp none [(SV.int IntKind.i64 n2)]))), (some (HE.mk false (HB.exp none [(SV.int IntKind.i64 n16), (SV.int IntKind.i64 n17), (SV.int IntKind.i64 n5), (SV.int IntKind.i64 n18), (SV.str s)]))), (some (HE.mk false (HB.rows (B.u8 l2))))])
 | _, _ => none
noncomputable def OA_impl_WalkTwo_2_1_WWWWw (N : Nat) (G_impl_ygetWord_w : ∀ {R : Type} (b : Bool) (n : Int) (l : List Int) (k : Int → Option R), Option R) (G_impl_WalkTwo_1_WWWw : ∀ {R : Type} (n : Int) (n1 : Int) (b : Bool) (n2 : Int) (n3 : Int) (n4 : Int) (n5 : Int) (n6 : Int) (s : ByteArray) (l : List Int) (k : Int → Bool → Int → Int → Int → (List Int) → Option R), Option R) : Orc E := addFn 46 (pa_impl_WalkTwo_2_1_WWWWw__o_impl_ygetWord_w N G_impl_ygetWord_w) (addFn 43 (pa_impl_WalkTwo_2_1_WWWWw__o_impl_WalkTwo_1_WWWw N G_impl_WalkTwo_1_WWWw) (noFn))
theorem O_impl_WalkTwo_2_1_WWWWw_ok (N : Nat) : OrcOk (O_impl_WalkTwo_2_1_WWWWw N) := addFn_ok (o_impl_ygetWord_w_ok N) (addFn_ok (o_impl_WalkTwo_1_WWWw_ok N) (noFn_ok))
noncomputable def g_impl_WalkTwo_2_1_WWWWw (N : Nat) {R : Type} (n : Int) (n1 : Int) (n2 : Int) (n3 : Int) (n4 : Int) (s : ByteArray) (b : Bool) (n5 : Int) (l : List Int) (k : Int → Bool → Int → Int → Int → (List Int) → Option R) : Option R :=
 (g_impl_WalkTwo_1_WWWw N n (1 : Int) b n5 n1 n2 n3 n4 s l fun n6 b1 n7 n8 n9 l1 =>
 (cond (!b1)
 (k (0 : Int) false n7 n8 n9 l1)
 (g_impl_ygetWord_w N b n6 l1 fun n10 =>
 (k n10 true n7 n8 (IntKind.wrap IntKind.i64 (n9 + (1 : Int))) l1))))
noncomputable def ga_g_impl_WalkTwo_2_1_WWWWw (N : Nat) (G_impl_ygetWord_w : ∀ {R : Type} (b : Bool) (n : Int) (l : List Int) (k : Int → Option R), Option R) (G_impl_WalkTwo_1_WWWw : ∀ {R : Type} (n : Int) (n1 : Int) (b : Bool) (n2 : Int) (n3 : Int) (n4 : Int) (n5 : Int) (n6 : Int) (s : ByteArray) (l : List Int) (k : Int → Bool → Int → Int → Int → (List Int) → Option R), Option R) {R : Type} (n : Int) (n1 : Int) (n2 : Int) (n3 : Int) (n4 : Int) (s : ByteArray) (b : Bool) (n5 : Int) (l : List Int) (k : Int → Bool → Int → Int → Int → (List Int) → Option R) : Option R :=
 (G_impl_WalkTwo_1_WWWw n (1 : Int) b n5 n1 n2 n3 n4 s l fun n6 b1 n7 n8 n9 l1 =>
 (cond (!b1)
 (k (0 : Int) false n7 n8 n9 l1)
 (G_impl_ygetWord_w b n6 l1 fun n10 =>
 (k n10 true n7 n8 (IntKind.wrap IntKind.i64 (n9 + (1 : Int))) l1))))
theorem ea_e_impl_WalkTwo_2_1_WWWWw (N : Nat) (G_impl_ygetWord_w : ∀ {R : Type} (b : Bool) (n : Int) (l : List Int) (k : Int → Option R), Option R) (G_impl_WalkTwo_1_WWWw : ∀ {R : Type} (n : Int) (n1 : Int) (b : Bool) (n2 : Int) (n3 : Int) (n4 : Int) (n5 : Int) (n6 : Int) (s : ByteArray) (l : List Int) (k : Int → Bool → Int → Int → Int → (List Int) → Option R), Option R) {R : Type} (n : Int) (n1 : Int) (n2 : Int) (n3 : Int) (n4 : Int) (s : ByteArray) (b : Bool) (n5 : Int) (l : List Int) (K : AV → Hp E → Option R) :
    runFnI (E := E) (OA_impl_WalkTwo_2_1_WWWWw N G_impl_ygetWord_w G_impl_WalkTwo_1_WWWw) (noIt) sl_impl_WalkTwo_2_1_WWWWw J_impl_WalkTwo_2_1_WWWWw Try.f45 [(AV.sc (SV.int IntKind.i64 n)), (AV.sc (SV.ptr 0 0 0)), (AV.sc (SV.ptr 1 0 0)), (AV.sc (SV.ptr 2 0 0))] [(some (HE.mk false (HB.exp none [(SV.fn 43 [(2, (0, 0)), (3, (0, 0)), (1, (0, 0))])]))), (some (HE.mk false (HB.exp none [(SV.int IntKind.i64 n1), (SV.int IntKind.i64 n2), (SV.int IntKind.i64 n3), (SV.int IntKind.i64 n4), (SV.str s)]))), (some (HE.mk false (HB.exp none [(SV.slc 4 none b)]))), (some (HE.mk false (HB.exp none [(SV.int IntKind.i64 n5)]))), (some (HE.mk false (HB.rows (B.u8 l))))] K =
      ga_g_impl_WalkTwo_2_1_WWWWw N G_impl_ygetWord_w G_impl_WalkTwo_1_WWWw n n1 n2 n3 n4 s b n5 l (fun n11 b2 n12 n13 n14 l2 => K (AV.tup [(false, [(SV.int IntKind.i64 n11)]), (false, [(SV.bool b2)])]) [(some (HE.mk false (HB.exp none [(SV.fn 43 [(2, (0, 0)), (3, (0, 0)), (1, (0, 0))])]))), (some (HE.mk false (HB.exp none [(SV.int IntKind.i64 n12), (SV.int IntKind.i64 n13), (SV.int IntKind.i64 n3), (SV.int IntKind.i64 n14), (SV.str s)]))), (some (HE.mk false (HB.exp none [(SV.slc 4 none b)]))), (some (HE.mk false (HB.exp none [(SV.int IntKind.i64 n5)]))), (some (HE.mk false (HB.rows (B.u8 l2))))]) := by kernel_rfl
theorem e_impl_WalkTwo_2_1_WWWWw (N : Nat) {R : Type} (n : Int) (n1 : Int) (n2 : Int) (n3 : Int) (n4 : Int) (s : ByteArray) (b : Bool) (n5 : Int) (l : List Int) (K : AV → Hp E → Option R) :
    runFnI (E := E) (O_impl_WalkTwo_2_1_WWWWw N) (noIt) sl_impl_WalkTwo_2_1_WWWWw J_impl_WalkTwo_2_1_WWWWw Try.f45 [(AV.sc (SV.int IntKind.i64 n)), (AV.sc (SV.ptr 0 0 0)), (AV.sc (SV.ptr 1 0 0)), (AV.sc (SV.ptr 2 0 0))] [(some (HE.mk false (HB.exp none [(SV.fn 43 [(2, (0, 0)), (3, (0, 0)), (1, (0, 0))])]))), (some (HE.mk false (HB.exp none [(SV.int IntKind.i64 n1), (SV.int IntKind.i64 n2), (SV.int IntKind.i64 n3), (SV.int IntKind.i64 n4), (SV.str s)]))), (some (HE.mk false (HB.exp none [(SV.slc 4 none b)]))), (some (HE.mk false (HB.exp none [(SV.int IntKind.i64 n5)]))), (some (HE.mk false (HB.rows (B.u8 l))))] K =
      g_impl_WalkTwo_2_1_WWWWw N n n1 n2 n3 n4 s b n5 l (fun n11 b2 n12 n13 n14 l2 => K (AV.tup [(false, [(SV.int IntKind.i64 n11)]), (false, [(SV.bool b2)])]) [(some (HE.mk false (HB.exp none [(SV.fn 43 [(2, (0, 0)), (3, (0, 0)), (1, (0, 0))])]))), (some (HE.mk false (HB.exp none [(SV.int IntKind.i64 n12), (SV.int IntKind.i64 n13), (SV.int IntKind.i64 n3), (SV.int IntKind.i64 n14), (SV.str s)]))), (some (HE.mk false (HB.exp none [(SV.slc 4 none b)]))), (some (HE.mk false (HB.exp none [(SV.int IntKind.i64 n5)]))), (some (HE.mk false (HB.rows (B.u8 l2))))]) := castPr (by kernel_rfl) (ea_e_impl_WalkTwo_2_1_WWWWw N (g_impl_ygetWord_w N) (g_impl_WalkTwo_1_WWWw N) n n1 n2 n3 n4 s b n5 l K)
noncomputable def o_impl_WalkTwo_2_1_WWWWw (N : Nat) {R : Type} (args : List AV) (H : Hp E) (K : AV → Hp E → Option R) : Option R :=
 match args, H with
 | [(AV.sc (SV.int IntKind.i64 n)), (AV.sc (SV.ptr 0 0 0)), (AV.sc (SV.ptr 1 0 0)), (AV.sc (SV.ptr 2 0 0))], [(some (HE.mk false (HB.exp none [(SV.fn 43 [(2, (0, 0)), (3, (0, 0)), (1, (0, 0))])]))), (some (HE.mk false (HB.exp none [(SV.int IntKind.i64 n1), (SV.int IntKind.i64 n2), (SV.int IntKind.i64 n3), (SV.int IntKind.i64 n4), (SV.str s)]))), (some (HE.mk false (HB.exp none [(SV.slc 4 none b)]))), (some (HE.mk false (HB.exp none [(SV.int IntKind.i64 n5)]))), (some (HE.mk false (HB.rows (B.u8 l))))] => g_impl_WalkTwo_2_1_WWWWw N n n1 n2 n3 n4 s b n5 l (fun n11 b2 n12 n13 n14 l2 => K (AV.tup [(false, [(SV.int IntKind.i64 n11)]), (false, [(SV.bool b2)])]) [(some (HE.mk false (HB.exp none [(SV.fn 43 [(2, (0, 0)), (3, (0, 0)), (1, (0, 0))])]))), (some (HE.mk false (HB.exp none [(SV.int IntKind.i64 n12), (SV.int IntKind.i64 n13), (SV.int IntKind.i64 n3), (SV.int IntKind.i64 n14), (SV.str s)]))), (some (HE.mk false (HB.exp none [(SV.slc 4 none b)]))), (some (HE.mk false (HB.exp none [(SV.int IntKind.i64 n5)]))), (some (HE.mk false (HB.rows (B.u8 l2))))])
 | _, _ => none
theorem o_impl_WalkTwo_2_1_WWWWw_ok (N : Nat) : FnOk E 45 (o_impl_WalkTwo_2_1_WWWWw N) := by
  intro R args H K r h
  unfold o_impl_WalkTwo_2_1_WWWWw at h
  dsimp only at h
  split at h
  · exact fnB_ok (ids := []) (top := []) ok (O_impl_WalkTwo_2_1_WWWWw_ok N) (jn_ok _ _ _) Try.func45 (by kernel_rfl) (IT := noIt) (sl := sl_impl_WalkTwo_2_1_WWWWw) (J := J_impl_WalkTwo_2_1_WWWWw) (K := K) (H := [(some (HE.mk false (HB.exp none [(SV.fn 43 [(2, (0, 0)), (3, (0, 0)), (1, (0, 0))])]))), (some (HE.mk false (HB.exp none [(SV.int IntKind.i64 _), (SV.int IntKind.i64 _), (SV.int IntKind.i64 _), (SV.int IntKind.i64 _), (SV.str _)]))), (some (HE.mk false (HB.exp none [(SV.slc 4 none _)]))), (some (HE.mk false (HB.exp none [(SV.int IntKind.i64 _)]))), (some (HE.mk false (HB.rows (B.u8 _))))]) (noIt_ok) (by kernel_rfl) rfl ((e_impl_WalkTwo_2_1_WWWWw N _ _ _ _ _ _ _ _ _ K).trans h)
  · cases h
end Go.Sa
