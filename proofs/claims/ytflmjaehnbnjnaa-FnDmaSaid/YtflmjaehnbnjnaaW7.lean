import Derived.Test.YtflmjaehnbnjnaaSpec
import Derived.Test.YtflmjaehnbnjnaaPLb
import Derived.Test.YtflmjaehnbnjnaaW6
set_option linter.all false
namespace Go.Sa
open Go Go.Eng Go.Proofs
set_option maxRecDepth 100000
set_option maxHeartbeats 4000000
/-! ### loop.example/g00038/impl.ylets -/
abbrev sl_impl_ylets : SlotT := []
abbrev J_impl_ylets : JT := jn [(11, [(6, .b)])] [(8, [(7, .i .i64)]), (10, [(7, .i .i64)]), (14, [(7, .i .i64)]), (18, [(7, .i .i64)])] []
noncomputable def O_impl_ylets (N : Nat) : Orc E := noFn
theorem O_impl_ylets_ok (N : Nat) : OrcOk (O_impl_ylets N) := noFn_ok
noncomputable def g_impl_ylets (N : Nat) {R : Type} (n : Int) (n1 : Int) (b : Bool) (k : Bool → Option R) : Option R :=
 (oK (cond b
 (some (16 : Int))
 (some (0 : Int))) fun j =>
 (oK (cond (n1 == (1 : Int))
 (some (IntKind.wrap IntKind.i64 (((BitVec.toNat ((BitVec.ofInt 64 j) ||| (BitVec.ofInt 64 (2 : Int)))) : Nat) : Int)))
 (oK (cond (n1 == (2 : Int))
 (some (IntKind.wrap IntKind.i64 (((BitVec.toNat ((BitVec.ofInt 64 j) ||| (BitVec.ofInt 64 (4 : Int)))) : Nat) : Int)))
 (oK (cond (n1 == (3 : Int))
 (some (IntKind.wrap IntKind.i64 (((BitVec.toNat ((BitVec.ofInt 64 j) ||| (BitVec.ofInt 64 (8 : Int)))) : Nat) : Int)))
 (some j)) fun j1 =>
 (some j1))) fun j2 =>
 (some j2))) fun j3 =>
 (oK (cond ((IntKind.wrap IntKind.i64 (((BitVec.toNat ((BitVec.ofInt 64 n) &&& (BitVec.ofInt 64 (IntKind.wrap IntKind.i64 (((BitVec.toNat ((BitVec.ofInt 64 j3) ||| (BitVec.ofInt 64 (1 : Int)))) : Nat) : Int))))) : Nat) : Int)) == (IntKind.wrap IntKind.i64 (((BitVec.toNat ((BitVec.ofInt 64 j3) ||| (BitVec.ofInt 64 (1 : Int)))) : Nat) : Int)))
 (cond b
 (some true)
 (cond (n1 != (3 : Int))
 (some true)
 (some ((IntKind.wrap IntKind.i64 (((BitVec.toNat ((BitVec.ofInt 64 n) &&& (BitVec.ofInt 64 (16 : Int)))) : Nat) : Int)) == (0 : Int)))))
 (some false)) fun j4 =>
 (k j4))))
theorem e_impl_ylets (N : Nat) {R : Type} (n : Int) (n1 : Int) (b : Bool) (K : AV → Hp E → Option R) :
    runFnI (E := E) (O_impl_ylets N) (noIt) sl_impl_ylets J_impl_ylets Try.f47 [(AV.sc (SV.int IntKind.i64 n)), (AV.sc (SV.int IntKind.i64 n1)), (AV.sc (SV.bool b))] [] K =
      g_impl_ylets N n n1 b (fun b1 => K (AV.sc (SV.bool b1)) []) := by kernel_rfl
noncomputable def o_impl_ylets (N : Nat) {R : Type} (args : List AV) (H : Hp E) (K : AV → Hp E → Option R) : Option R :=
 match args, H with
 | [(AV.sc (SV.int IntKind.i64 n)), (AV.sc (SV.int IntKind.i64 n1)), (AV.sc (SV.bool b))], [] => g_impl_ylets N n n1 b (fun b1 => K (AV.sc (SV.bool b1)) [])
 | _, _ => none
theorem o_impl_ylets_ok (N : Nat) : FnOk E 47 (o_impl_ylets N) := by
  intro R args H K r h
  unfold o_impl_ylets at h
  dsimp only at h
  split at h
  · exact fnB_ok (ids := []) (top := []) ok (O_impl_ylets_ok N) (jn_ok _ _ _) Try.func47 (by kernel_rfl) (IT := noIt) (sl := sl_impl_ylets) (J := J_impl_ylets) (K := K) (H := []) (noIt_ok) (by kernel_rfl) rfl ((e_impl_ylets N _ _ _ K).trans h)
  · cases h
/-! ### loop.example/g00038/impl.yputs -/
abbrev sl_impl_yputs : SlotT := []
abbrev J_impl_yputs : JT := jn [] [] []
noncomputable def O_impl_yputs (N : Nat) : Orc E := noFn
theorem O_impl_yputs_ok (N : Nat) : OrcOk (O_impl_yputs N) := noFn_ok
noncomputable def g_impl_yputs (N : Nat) {R : Type} (n : Int) (k : Int → Option R) : Option R :=
 (cond (n == (2 : Int))
 (k (96 : Int))
 (k (32 : Int)))
theorem e_impl_yputs (N : Nat) {R : Type} (n : Int) (K : AV → Hp E → Option R) :
    runFnI (E := E) (O_impl_yputs N) (noIt) sl_impl_yputs J_impl_yputs Try.f48 [(AV.sc (SV.int IntKind.i64 n))] [] K =
      g_impl_yputs N n (fun n1 => K (AV.sc (SV.int IntKind.i64 n1)) []) := by kernel_rfl
noncomputable def o_impl_yputs (N : Nat) {R : Type} (args : List AV) (H : Hp E) (K : AV → Hp E → Option R) : Option R :=
 match args, H with
 | [(AV.sc (SV.int IntKind.i64 n))], [] => g_impl_yputs N n (fun n1 => K (AV.sc (SV.int IntKind.i64 n1)) [])
 | _, _ => none
theorem o_impl_yputs_ok (N : Nat) : FnOk E 48 (o_impl_yputs N) := by
  intro R args H K r h
  unfold o_impl_yputs at h
  dsimp only at h
  split at h
  · exact fnB_ok (ids := []) (top := []) ok (O_impl_yputs_ok N) (jn_ok _ _ _) Try.func48 (by kernel_rfl) (IT := noIt) (sl := sl_impl_yputs) (J := J_impl_yputs) (K := K) (H := []) (noIt_ok) (by kernel_rfl) rfl ((e_impl_yputs N _ K).trans h)
  · cases h
/-! ### loop.example/g00038/impl.ylookup -/
abbrev sl_impl_ylookup_w : SlotT := []
abbrev J_impl_ylookup_w : JT := jn [(10, [(52, .b)])] [] []
noncomputable def O_impl_ylookup_w (N : Nat) : Orc E := addFn 48 (o_impl_yputs N) (addFn 47 (o_impl_ylets N) (addFn 46 (o_impl_ygetWord_w N) (addFn 66 (o_impl_yframes_w N) (noFn))))
noncomputable def pa_impl_ylookup_w__o_impl_yputs (N : Nat) (G_impl_yputs : ∀ {R : Type} (n : Int) (k : Int → Option R), Option R) {R : Type} (args : List AV) (H : Hp E) (K : AV → Hp E → Option R) : Option R :=
 match args, H with
 | [(AV.sc (SV.int IntKind.i64 n))], [] => G_impl_yputs n (fun n1 => K (AV.sc (SV.int IntKind.i64 n1)) [])
 | _, _ => none
noncomputable def pa_impl_ylookup_w__o_impl_ylets (N : Nat) (G_impl_ylets : ∀ {R : Type} (n : Int) (n1 : Int) (b : Bool) (k : Bool → Option R), Option R) {R : Type} (args : List AV) (H : Hp E) (K : AV → Hp E → Option R) : Option R :=
 match args, H with
 | [(AV.sc (SV.int IntKind.i64 n)), (AV.sc (SV.int IntKind.i64 n1)), (AV.sc (SV.bool b))], [] => G_impl_ylets n n1 b (fun b1 => K (AV.sc (SV.bool b1)) [])
 | _, _ => none
noncomputable def pa_impl_ylookup_w__o_impl_ygetWord_w (N : Nat) (G_impl_ygetWord_w : ∀ {R : Type} (b : Bool) (n : Int) (l : List Int) (k : Int → Option R), Option R) {R : Type} (args : List AV) (H : Hp E) (K : AV → Hp E → Option R) : Option R :=
 match args, H with
 | [(AV.sc (SV.slc 0 none b)), (AV.sc (SV.int IntKind.i64 n))], [(some (HE.mk false (HB.rows (B.u8 l))))] => G_impl_ygetWord_w b n l (fun n1 => K (AV.sc (SV.int IntKind.i64 n1)) [(some (HE.mk false (HB.rows (B.u8 l))))])
 | _, _ => none
noncomputable def pa_impl_ylookup_w__o_impl_yframes_w (N : Nat) (G_impl_yframes_w : ∀ {R : Type} (b : Bool) (l : List Int) (k : Int → Option R), Option R) {R : Type} (args : List AV) (H : Hp E) (K : AV → Hp E → Option R) : Option R :=
 match args, H with
 | [(AV.sc (SV.slc 0 none b))], [(some (HE.mk false (HB.rows (B.u8 l))))] => G_impl_yframes_w b l (fun n => K (AV.sc (SV.int IntKind.i64 n)) [(some (HE.mk false (HB.rows (B.u8 l))))])
 | _, _ => none
noncomputable def OA_impl_ylookup_w (N : Nat) (G_impl_yputs : ∀ {R : Type} (n : Int) (k : Int → Option R), Option R) (G_impl_ylets : ∀ {R : Type} (n : Int) (n1 : Int) (b : Bool) (k : Bool → Option R), Option R) (G_impl_ygetWord_w : ∀ {R : Type} (b : Bool) (n : Int) (l : List Int) (k : Int → Option R), Option R) (G_impl_yframes_w : ∀ {R : Type} (b : Bool) (l : List Int) (k : Int → Option R), Option R) : Orc E := addFn 48 (pa_impl_ylookup_w__o_impl_yputs N G_impl_yputs) (addFn 47 (pa_impl_ylookup_w__o_impl_ylets N G_impl_ylets) (addFn 46 (pa_impl_ylookup_w__o_impl_ygetWord_w N G_impl_ygetWord_w) (addFn 66 (pa_impl_ylookup_w__o_impl_yframes_w N G_impl_yframes_w) (noFn))))
theorem O_impl_ylookup_w_ok (N : Nat) : OrcOk (O_impl_ylookup_w N) := addFn_ok (o_impl_yputs_ok N) (addFn_ok (o_impl_ylets_ok N) (addFn_ok (o_impl_ygetWord_w_ok N) (addFn_ok (o_impl_yframes_w_ok N) (noFn_ok))))
noncomputable def g_impl_ylookup_w (N : Nat) {R : Type} (b : Bool) (n : Int) (n1 : Int) (n2 : Int) (b1 : Bool) (l : List Int) (k : Int → Int → Int → Int → Int → Bool → Int → Int → Int → Option R) : Option R :=
 (g_impl_yframes_w N b l fun n3 =>
 (cond (decide ((n ≥ n3)))
 (k (2 : Int) (0 : Int) (0 : Int) (0 : Int) (0 : Int) false (0 : Int) (0 : Int) (0 : Int))
 (g_impl_ygetWord_w N b (IntKind.wrap IntKind.i64 ((IntKind.wrap IntKind.i64 (n * (256 : Int))) + (IntKind.wrap IntKind.i64 ((4 : Int) * (IntKind.wrap IntKind.i64 (((BitVec.toNat ((BitVec.ofInt 64 (Int.fdiv n1 (8192 : Int))) &&& (BitVec.ofInt 64 (31 : Int)))) : Nat) : Int)))))) l fun n4 =>
 (oK (cond ((IntKind.wrap IntKind.i64 (((BitVec.toNat ((BitVec.ofInt 64 n4) &&& (BitVec.ofInt 64 (1 : Int)))) : Nat) : Int)) != (0 : Int))
 (some ((IntKind.wrap IntKind.i64 (((BitVec.toNat ((BitVec.ofInt 64 n4) &&& (BitVec.ofInt 64 (14 : Int)))) : Nat) : Int)) == (0 : Int)))
 (some false)) fun j =>
 (cond j
 (g_impl_yframes_w N b l fun n5 =>
 (cond (decide (((Int.fdiv n4 (256 : Int)) ≥ n5)))
 (k (2 : Int) (0 : Int) (IntKind.wrap IntKind.i64 ((IntKind.wrap IntKind.i64 (n * (256 : Int))) + (IntKind.wrap IntKind.i64 ((4 : Int) * (IntKind.wrap IntKind.i64 (((BitVec.toNat ((BitVec.ofInt 64 (Int.fdiv n1 (8192 : Int))) &&& (BitVec.ofInt 64 (31 : Int)))) : Nat) : Int)))))) (0 : Int) (0 : Int) false n (0 : Int) (1 : Int))
 (g_impl_ygetWord_w N b (IntKind.wrap IntKind.i64 ((IntKind.wrap IntKind.i64 ((Int.fdiv n4 (256 : Int)) * (256 : Int))) + (IntKind.wrap IntKind.i64 ((4 : Int) * (IntKind.wrap IntKind.i64 (((BitVec.toNat ((BitVec.ofInt 64 (Int.fdiv n1 (256 : Int))) &&& (BitVec.ofInt 64 (31 : Int)))) : Nat) : Int)))))) l fun n6 =>
 (g_impl_ylets N (IntKind.wrap IntKind.i64 (((BitVec.toNat ((BitVec.ofInt 64 n6) &&& (BitVec.ofInt 64 (255 : Int)))) : Nat) : Int)) n2 b1 fun b2 =>
 (cond (!b2)
 (k (1 : Int) (0 : Int) (IntKind.wrap IntKind.i64 ((IntKind.wrap IntKind.i64 ((Int.fdiv n4 (256 : Int)) * (256 : Int))) + (IntKind.wrap IntKind.i64 ((4 : Int) * (IntKind.wrap IntKind.i64 (((BitVec.toNat ((BitVec.ofInt 64 (Int.fdiv n1 (256 : Int))) &&& (BitVec.ofInt 64 (31 : Int)))) : Nat) : Int)))))) (0 : Int) (0 : Int) false n (Int.fdiv n4 (256 : Int)) (2 : Int))
 (g_impl_yframes_w N b l fun n7 =>
 (cond (decide (((Int.fdiv n6 (256 : Int)) ≥ n7)))
 (k (2 : Int) (0 : Int) (IntKind.wrap IntKind.i64 ((IntKind.wrap IntKind.i64 ((Int.fdiv n4 (256 : Int)) * (256 : Int))) + (IntKind.wrap IntKind.i64 ((4 : Int) * (IntKind.wrap IntKind.i64 (((BitVec.toNat ((BitVec.ofInt 64 (Int.fdiv n1 (256 : Int))) &&& (BitVec.ofInt 64 (31 : Int)))) : Nat) : Int)))))) (0 : Int) (0 : Int) false n (Int.fdiv n4 (256 : Int)) (2 : Int))
 (g_impl_yputs N n2 fun n8 =>
 (k (0 : Int) (IntKind.wrap IntKind.i64 ((IntKind.wrap IntKind.i64 ((Int.fdiv n6 (256 : Int)) * (256 : Int))) + (IntKind.wrap IntKind.i64 (((BitVec.toNat ((BitVec.ofInt 64 n1) &&& (BitVec.ofInt 64 (255 : Int)))) : Nat) : Int)))) (IntKind.wrap IntKind.i64 ((IntKind.wrap IntKind.i64 ((Int.fdiv n4 (256 : Int)) * (256 : Int))) + (IntKind.wrap IntKind.i64 ((4 : Int) * (IntKind.wrap IntKind.i64 (((BitVec.toNat ((BitVec.ofInt 64 (Int.fdiv n1 (256 : Int))) &&& (BitVec.ofInt 64 (31 : Int)))) : Nat) : Int)))))) n6 (IntKind.wrap IntKind.i64 (((BitVec.toNat ((BitVec.ofInt 64 n6) ||| (BitVec.ofInt 64 n8))) : Nat) : Int)) false n (Int.fdiv n4 (256 : Int)) (2 : Int))))))))))
 (cond ((Int.tmod (Int.fdiv n4 (256 : Int)) (32 : Int)) != (0 : Int))
 (k (1 : Int) (0 : Int) (IntKind.wrap IntKind.i64 ((IntKind.wrap IntKind.i64 (n * (256 : Int))) + (IntKind.wrap IntKind.i64 ((4 : Int) * (IntKind.wrap IntKind.i64 (((BitVec.toNat ((BitVec.ofInt 64 (Int.fdiv n1 (8192 : Int))) &&& (BitVec.ofInt 64 (31 : Int)))) : Nat) : Int)))))) (0 : Int) (0 : Int) false n (0 : Int) (1 : Int))
 (g_impl_ylets N (IntKind.wrap IntKind.i64 (((BitVec.toNat ((BitVec.ofInt 64 n4) &&& (BitVec.ofInt 64 (255 : Int)))) : Nat) : Int)) n2 b1 fun b3 =>
 (cond (!b3)
 (k (1 : Int) (0 : Int) (IntKind.wrap IntKind.i64 ((IntKind.wrap IntKind.i64 (n * (256 : Int))) + (IntKind.wrap IntKind.i64 ((4 : Int) * (IntKind.wrap IntKind.i64 (((BitVec.toNat ((BitVec.ofInt 64 (Int.fdiv n1 (8192 : Int))) &&& (BitVec.ofInt 64 (31 : Int)))) : Nat) : Int)))))) (0 : Int) (0 : Int) false n (0 : Int) (1 : Int))
 (g_impl_yframes_w N b l fun n9 =>
 (cond (decide (((IntKind.wrap IntKind.i64 ((Int.fdiv n4 (256 : Int)) + (IntKind.wrap IntKind.i64 (((BitVec.toNat ((BitVec.ofInt 64 (Int.fdiv n1 (256 : Int))) &&& (BitVec.ofInt 64 (31 : Int)))) : Nat) : Int)))) ≥ n9)))
 (k (2 : Int) (0 : Int) (IntKind.wrap IntKind.i64 ((IntKind.wrap IntKind.i64 (n * (256 : Int))) + (IntKind.wrap IntKind.i64 ((4 : Int) * (IntKind.wrap IntKind.i64 (((BitVec.toNat ((BitVec.ofInt 64 (Int.fdiv n1 (8192 : Int))) &&& (BitVec.ofInt 64 (31 : Int)))) : Nat) : Int)))))) (0 : Int) (0 : Int) false n (0 : Int) (1 : Int))
 (g_impl_yputs N n2 fun n10 =>
 (k (0 : Int) (IntKind.wrap IntKind.i64 ((IntKind.wrap IntKind.i64 ((IntKind.wrap IntKind.i64 ((Int.fdiv n4 (256 : Int)) + (IntKind.wrap IntKind.i64 (((BitVec.toNat ((BitVec.ofInt 64 (Int.fdiv n1 (256 : Int))) &&& (BitVec.ofInt 64 (31 : Int)))) : Nat) : Int)))) * (256 : Int))) + (IntKind.wrap IntKind.i64 (((BitVec.toNat ((BitVec.ofInt 64 n1) &&& (BitVec.ofInt 64 (255 : Int)))) : Nat) : Int)))) (IntKind.wrap IntKind.i64 ((IntKind.wrap IntKind.i64 (n * (256 : Int))) + (IntKind.wrap IntKind.i64 ((4 : Int) * (IntKind.wrap IntKind.i64 (((BitVec.toNat ((BitVec.ofInt 64 (Int.fdiv n1 (8192 : Int))) &&& (BitVec.ofInt 64 (31 : Int)))) : Nat) : Int)))))) n4 (IntKind.wrap IntKind.i64 (((BitVec.toNat ((BitVec.ofInt 64 n4) ||| (BitVec.ofInt 64 n10))) : Nat) : Int)) true n (0 : Int) (1 : Int)))))))))))))
noncomputable def ga_g_impl_ylookup_w (N : Nat) (G_impl_yputs : ∀ {R : Type} (n : Int) (k : Int → Option R), Option R) (G_impl_ylets : ∀ {R : Type} (n : Int) (n1 : Int) (b : Bool) (k : Bool → Option R), Option R) (G_impl_ygetWord_w : ∀ {R : Type} (b : Bool) (n : Int) (l : List Int) (k : Int → Option R), Option R) (G_impl_yframes_w : ∀ {R : Type} (b : Bool) (l : List Int) (k : Int → Option R), Option R) {R : Type} (b : Bool) (n : Int) (n1 : Int) (n2 : Int) (b1 : Bool) (l : List Int) (k : Int → Int → Int → Int → Int → Bool → Int → Int → Int → Option R) : Option R :=
 (G_impl_yframes_w b l fun n3 =>
 (cond (decide ((n ≥ n3)))
 (k (2 : Int) (0 : Int) (0 : Int) (0 : Int) (0 : Int) false (0 : Int) (0 : Int) (0 : Int))
 (G_impl_ygetWord_w b (IntKind.wrap IntKind.i64 ((IntKind.wrap IntKind.i64 (n * (256 : Int))) + (IntKind.wrap IntKind.i64 ((4 : Int) * (IntKind.wrap IntKind.i64 (((BitVec.toNat ((BitVec.ofInt 64 (Int.fdiv n1 (8192 : Int))) &&& (BitVec.ofInt 64 (31 : Int)))) : Nat) : Int)))))) l fun n4 =>
 (oK (cond ((IntKind.wrap IntKind.i64 (((BitVec.toNat ((BitVec.ofInt 64 n4) &&& (BitVec.ofInt 64 (1 : Int)))) : Nat) : Int)) != (0 : Int))
 (some ((IntKind.wrap IntKind.i64 (((BitVec.toNat ((BitVec.ofInt 64 n4) &&& (BitVec.ofInt 64 (14 : Int)))) : Nat) : Int)) == (0 : Int)))
 (some false)) fun j =>
 (cond j
 (G_impl_yframes_w b l fun n5 =>
 (cond (decide (((Int.fdiv n4 (256 : Int)) ≥ n5)))
 (k (2 : Int) (0 : Int) (IntKind.wrap IntKind.i64 ((IntKind.wrap IntKind.i64 (n * (256 : Int))) + (IntKind.wrap IntKind.i64 ((4 : Int) * (IntKind.wrap IntKind.i64 (((BitVec.toNat ((BitVec.ofInt 64 (Int.fdiv n1 (8192 : Int))) &&& (BitVec.ofInt 64 (31 : Int)))) : Nat) : Int)))))) (0 : Int) (0 : Int) false n (0 : Int) (1 : Int))
 (G_impl_ygetWord_w b (IntKind.wrap IntKind.i64 ((IntKind.wrap IntKind.i64 ((Int.fdiv n4 (256 : Int)) * (256 : Int))) + (IntKind.wrap IntKind.i64 ((4 : Int) * (IntKind.wrap IntKind.i64 (((BitVec.toNat ((BitVec.ofInt 64 (Int.fdiv n1 (256 : Int))) &&& (BitVec.ofInt 64 (31 : Int)))) : Nat) : Int)))))) l fun n6 =>
 (G_impl_ylets (IntKind.wrap IntKind.i64 (((BitVec.toNat ((BitVec.ofInt 64 n6) &&& (BitVec.ofInt 64 (255 : Int)))) : Nat) : Int)) n2 b1 fun b2 =>
 (cond (!b2)
 (k (1 : Int) (0 : Int) (IntKind.wrap IntKind.i64 ((IntKind.wrap IntKind.i64 ((Int.fdiv n4 (256 : Int)) * (256 : Int))) + (IntKind.wrap IntKind.i64 ((4 : Int) * (IntKind.wrap IntKind.i64 (((BitVec.toNat ((BitVec.ofInt 64 (Int.fdiv n1 (256 : Int))) &&& (BitVec.ofInt 64 (31 : Int)))) : Nat) : Int)))))) (0 : Int) (0 : Int) false n (Int.fdiv n4 (256 : Int)) (2 : Int))
 (G_impl_yframes_w b l fun n7 =>
 (cond (decide (((Int.fdiv n6 (256 : Int)) ≥ n7)))
 (k (2 : Int) (0 : Int) (IntKind.wrap IntKind.i64 ((IntKind.wrap IntKind.i64 ((Int.fdiv n4 (256 : Int)) * (256 : Int))) + (IntKind.wrap IntKind.i64 ((4 : Int) * (IntKind.wrap IntKind.i64 (((BitVec.toNat ((BitVec.ofInt 64 (Int.fdiv n1 (256 : Int))) &&& (BitVec.ofInt 64 (31 : Int)))) : Nat) : Int)))))) (0 : Int) (0 : Int) false n (Int.fdiv n4 (256 : Int)) (2 : Int))
 (G_impl_yputs n2 fun n8 =>
 (k (0 : Int) (IntKind.wrap IntKind.i64 ((IntKind.wrap IntKind.i64 ((Int.fdiv n6 (256 : Int)) * (256 : Int))) + (IntKind.wrap IntKind.i64 (((BitVec.toNat ((BitVec.ofInt 64 n1) &&& (BitVec.ofInt 64 (255 : Int)))) : Nat) : Int)))) (IntKind.wrap IntKind.i64 ((IntKind.wrap IntKind.i64 ((Int.fdiv n4 (256 : Int)) * (256 : Int))) + (IntKind.wrap IntKind.i64 ((4 : Int) * (IntKind.wrap IntKind.i64 (((BitVec.toNat ((BitVec.ofInt 64 (Int.fdiv n1 (256 : Int))) &&& (BitVec.ofInt 64 (31 : Int)))) : Nat) : Int)))))) n6 (IntKind.wrap IntKind.i64 (((BitVec.toNat ((BitVec.ofInt 64 n6) ||| (BitVec.ofInt 64 n8))) : Nat) : Int)) false n (Int.fdiv n4 (256 : Int)) (2 : Int))))))))))
 (cond ((Int.tmod (Int.fdiv n4 (256 : Int)) (32 : Int)) != (0 : Int))
 (k (1 : Int) (0 : Int) (IntKind.wrap IntKind.i64 ((IntKind.wrap IntKind.i64 (n * (256 : Int))) + (IntKind.wrap IntKind.i64 ((4 : Int) * (IntKind.wrap IntKind.i64 (((BitVec.toNat ((BitVec.ofInt 64 (Int.fdiv n1 (8192 : Int))) &&& (BitVec.ofInt 64 (31 : Int)))) : Nat) : Int)))))) (0 : Int) (0 : Int) false n (0 : Int) (1 : Int))
 (G_impl_ylets (IntKind.wrap IntKind.i64 (((BitVec.toNat ((BitVec.ofInt 64 n4) &&& (BitVec.ofInt 64 (255 : Int)))) : Nat) : Int)) n2 b1 fun b3 =>
 (cond (!b3)
 (k (1 : Int) (0 : Int) (IntKind.wrap IntKind.i64 ((IntKind.wrap IntKind.i64 (n * (256 : Int))) + (IntKind.wrap IntKind.i64 ((4 : Int) * (IntKind.wrap IntKind.i64 (((BitVec.toNat ((BitVec.ofInt 64 (Int.fdiv n1 (8192 : Int))) &&& (BitVec.ofInt 64 (31 : Int)))) : Nat) : Int)))))) (0 : Int) (0 : Int) false n (0 : Int) (1 : Int))
 (G_impl_yframes_w b l fun n9 =>
 (cond (decide (((IntKind.wrap IntKind.i64 ((Int.fdiv n4 (256 : Int)) + (IntKind.wrap IntKind.i64 (((BitVec.toNat ((BitVec.ofInt 64 (Int.fdiv n1 (256 : Int))) &&& (BitVec.ofInt 64 (31 : Int)))) : Nat) : Int)))) ≥ n9)))
 (k (2 : Int) (0 : Int) (IntKind.wrap IntKind.i64 ((IntKind.wrap IntKind.i64 (n * (256 : Int))) + (IntKind.wrap IntKind.i64 ((4 : Int) * (IntKind.wrap IntKind.i64 (((BitVec.toNat ((BitVec.ofInt 64 (Int.fdiv n1 (8192 : Int))) &&& (BitVec.ofInt 64 (31 : Int)))) : Nat) : Int)))))) (0 : Int) (0 : Int) false n (0 : Int) (1 : Int))
 (G_impl_yputs n2 fun n10 =>
 (k (0 : Int) (IntKind.wrap IntKind.i64 ((IntKind.wrap IntKind.i64 ((IntKind.wrap IntKind.i64 ((Int.fdiv n4 (256 : Int)) + (IntKind.wrap IntKind.i64 (((BitVec.toNat ((BitVec.ofInt 64 (Int.fdiv n1 (256 : Int))) &&& (BitVec.ofInt 64 (31 : Int)))) : Nat) : Int)))) * (256 : Int))) + (IntKind.wrap IntKind.i64 (((BitVec.toNat ((BitVec.ofInt 64 n1) &&& (BitVec.ofInt 64 (255 : Int)))) : Nat) : Int)))) (IntKind.wrap IntKind.i64 ((IntKind.wrap IntKind.i64 (n * (256 : Int))) + (IntKind.wrap IntKind.i64 ((4 : Int) * (IntKind.wrap IntKind.i64 (((BitVec.toNat ((BitVec.ofInt 64 (Int.fdiv n1 (8192 : Int))) &&& (BitVec.ofInt 64 (31 : Int)))) : Nat) : Int)))))) n4 (IntKind.wrap IntKind.i64 (((BitVec.toNat ((BitVec.ofInt 64 n4) ||| (BitVec.ofInt 64 n10))) : Nat) : Int)) true n (0 : Int) (1 : Int)))))))))))))
theorem ea_e_impl_ylookup_w (N : Nat) (G_impl_yputs : ∀ {R : Type} (n : Int) (k : Int → Option R), Option R) (G_impl_ylets : ∀ {R : Type} (n : Int) (n1 : Int) (b : Bool) (k : Bool → Option R), Option R) (G_impl_ygetWord_w : ∀ {R : Type} (b : Bool) (n : Int) (l : List Int) (k : Int → Option R), Option R) (G_impl_yframes_w : ∀ {R : Type} (b : Bool) (l : List Int) (k : Int → Option R), Option R) {R : Type} (b : Bool) (n : Int) (n1 : Int) (n2 : Int) (b1 : Bool) (l : List Int) (K : AV → Hp E → Option R) :
    runFnI (E := E) (OA_impl_ylookup_w N G_impl_yputs G_impl_ylets G_impl_ygetWord_w G_impl_yframes_w) (noIt) sl_impl_ylookup_w J_impl_ylookup_w Try.f32 [(AV.sc (SV.slc 0 none b)), (AV.sc (SV.int IntKind.i64 n)), (AV.sc (SV.int IntKind.i64 n1)), (AV.sc (SV.int IntKind.i64 n2)), (AV.sc (SV.bool b1))] [(some (HE.mk false (HB.rows (B.u8 l))))] K =
      ga_g_impl_ylookup_w N G_impl_yputs G_impl_ylets G_impl_ygetWord_w G_impl_yframes_w b n n1 n2 b1 l (fun n11 n12 n13 n14 n15 b4 n16 n17 n18 => K (AV.agg [(SV.int IntKind.i64 n11), (SV.int IntKind.i64 n12), (SV.int IntKind.i64 n13), (SV.int IntKind.i64 n14), (SV.int IntKind.i64 n15), (SV.bool b4), (SV.int IntKind.i64 n16), (SV.int IntKind.i64 n17), (SV.int IntKind.i64 n18)]) [(some (HE.mk false (HB.rows (B.u8 l))))]) := by kernel_rfl
theorem e_impl_ylookup_w (N : Nat) {R : Type} (b : Bool) (n : Int) (n1 : Int) (n2 : Int) (b1 : Bool) (l : List Int) (K : AV → Hp E → Option R) :
    runFnI (E := E) (O_impl_ylookup_w N) (noIt) sl_impl_ylookup_w J_impl_ylookup_w Try.f32 [(AV.sc (SV.slc 0 none b)), (AV.sc (SV.int IntKind.i64 n)), (AV.sc (SV.int IntKind.i64 n1)), (AV.sc (SV.int IntKind.i64 n2)), (AV.sc (SV.bool b1))] [(some (HE.mk false (HB.rows (B.u8 l))))] K =
      g_impl_ylookup_w N b n n1 n2 b1 l (fun n11 n12 n13 n14 n15 b4 n16 n17 n18 => K (AV.agg [(SV.int IntKind.i64 n11), (SV.int IntKind.i64 n12), (SV.int IntKind.i64 n13), (SV.int IntKind.i64 n14), (SV.int IntKind.i64 n15), (SV.bool b4), (SV.int IntKind.i64 n16), (SV.int IntKind.i64 n17), (SV.int IntKind.i64 n18)]) [(some (HE.mk false (HB.rows (B.u8 l))))]) := castPr (by kernel_rfl) (ea_e_impl_ylookup_w N (g_impl_yputs N) (g_impl_ylets N) (g_impl_ygetWord_w N) (g_impl_yframes_w N) b n n1 n2 b1 l K)
noncomputable def o_impl_ylookup_w (N : Nat) {R : Type} (args : List AV) (H : Hp E) (K : AV → Hp E → Option R) : Option R :=
 match args, H with
 | [(AV.sc (SV.slc 0 none b)), (AV.sc (SV.int IntKind.i64 n)), (AV.sc (SV.int IntKind.i64 n1)), (AV.sc (SV.int IntKind.i64 n2)), (AV.sc (SV.bool b1))], [(some (HE.mk false (HB.rows (B.u8 l))))] => g_impl_ylookup_w N b n n1 n2 b1 l (fun n11 n12 n13 n14 n15 b4 n16 n17 n18 => K (AV.agg [(SV.int IntKind.i64 n11), (SV.int IntKind.i64 n12), (SV.int IntKind.i64 n13), (SV.int IntKind.i64 n14), (SV.int IntKind.i64 n15), (SV.bool b4), (SV.int IntKind.i64 n16), (SV.int IntKind.i64 n17), (SV.int IntKind.i64 n18)]) [(some (HE.mk false (HB.rows (B.u8 l))))])
 | _, _ => none
theorem o_impl_ylookup_w_ok (N : Nat) : FnOk E 32 (o_impl_ylookup_w N) := by
  intro R args H K r h
  unfold o_impl_ylookup_w at h
  dsimp only at h
  split at h
  · exact fnB_ok (ids := []) (top := []) ok (O_impl_ylookup_w_ok N) (jn_ok _ _ _) Try.func32 (by kernel_rfl) (IT := noIt) (sl := sl_impl_ylookup_w) (J := J_impl_ylookup_w) (K := K) (H := [(some (HE.mk false (HB.rows (B.u8 _))))]) (noIt_ok) (by kernel_rfl) rfl ((e_impl_ylookup_w N _ _ _ _ _ _ K).trans h)
  · cases h
/-! ### loop.example/g00038/impl.yputWord -/
abbrev sl_impl_yputWord_w : SlotT := []
abbrev J_impl_yputWord_w : JT := jn [] [] []
noncomputable def O_impl_yputWord_w (N : Nat) : Orc E := noFn
theorem O_impl_yputWord_w_ok (N : Nat) : OrcOk (O_impl_yputWord_w N) := noFn_ok
noncomputable def g_impl_yputWord_w (N : Nat) {R : Type} (b : Bool) (n : Int) (n1 : Int) (l : List Int) (k : (List Int) → Option R) : Option R :=
 (cond ((decide (((0 : Int) ≤ n))) && (decide ((n < (((List.length l) : Nat) : Int)))))
 (elemK l (Int.toNat n) fun x =>
 (cond (Nat.blt (Int.toNat n) (List.length l))
 (cond ((decide (((0 : Int) ≤ (IntKind.wrap IntKind.i64 (n + (1 : Int)))))) && (decide (((IntKind.wrap IntKind.i64 (n + (1 : Int))) < (((List.length (nset l (Int.toNat n) (IntKind.wrap IntKind.u8 n1))) : Nat) : Int)))))
 (elemK (nset l (Int.toNat n) (IntKind.wrap IntKind.u8 n1)) (Int.toNat (IntKind.wrap IntKind.i64 (n + (1 : Int)))) fun x1 =>
 (cond (Nat.blt (Int.toNat (IntKind.wrap IntKind.i64 (n + (1 : Int)))) (List.length (nset l (Int.toNat n) (IntKind.wrap IntKind.u8 n1))))
 (cond ((decide (((0 : Int) ≤ (IntKind.wrap IntKind.i64 (n + (2 : Int)))))) && (decide (((IntKind.wrap IntKind.i64 (n + (2 : Int))) < (((List.length (nset (nset l (Int.toNat n) (IntKind.wrap IntKind.u8 n1)) (Int.toNat (IntKind.wrap IntKind.i64 (n + (1 : Int)))) (IntKind.wrap IntKind.u8 (Int.fdiv n1 (256 : Int))))) : Nat) : Int)))))
 (elemK (nset (nset l (Int.toNat n) (IntKind.wrap IntKind.u8 n1)) (Int.toNat (IntKind.wrap IntKind.i64 (n + (1 : Int)))) (IntKind.wrap IntKind.u8 (Int.fdiv n1 (256 : Int)))) (Int.toNat (IntKind.wrap IntKind.i64 (n + (2 : Int)))) fun x2 =>
 (cond (Nat.blt (Int.toNat (IntKind.wrap IntKind.i64 (n + (2 : Int)))) (List.length (nset (nset l (Int.toNat n) (IntKind.wrap IntKind.u8 n1)) (Int.toNat (IntKind.wrap IntKind.i64 (n + (1 : Int)))) (IntKind.wrap IntKind.u8 (Int.fdiv n1 (256 : Int))))))
 (cond ((decide (((0 : Int) ≤ (IntKind.wrap IntKind.i64 (n + (3 : Int)))))) && (decide (((IntKind.wrap IntKind.i64 (n + (3 : Int))) < (((List.length (nset (nset (nset l (Int.toNat n) (IntKind.wrap IntKind.u8 n1)) (Int.toNat (IntKind.wrap IntKind.i64 (n + (1 : Int)))) (IntKind.wrap IntKind.u8 (Int.fdiv n1 (256 : Int)))) (Int.toNat (IntKind.wrap IntKind.i64 (n + (2 : Int)))) (IntKind.wrap IntKind.u8 (Int.fdiv n1 (65536 : Int))))) : Nat) : Int)))))
 (elemK (nset (nset (nset l (Int.toNat n) (IntKind.wrap IntKind.u8 n1)) (Int.toNat (IntKind.wrap IntKind.i64 (n + (1 : Int)))) (IntKind.wrap IntKind.u8 (Int.fdiv n1 (256 : Int)))) (Int.toNat (IntKind.wrap IntKind.i64 (n + (2 : Int)))) (IntKind.wrap IntKind.u8 (Int.fdiv n1 (65536 : Int)))) (Int.toNat (IntKind.wrap IntKind.i64 (n + (3 : Int)))) fun x3 =>
 (cond (Nat.blt (Int.toNat (IntKind.wrap IntKind.i64 (n + (3 : Int)))) (List.length (nset (nset (nset l (Int.toNat n) (IntKind.wrap IntKind.u8 n1)) (Int.toNat (IntKind.wrap IntKind.i64 (n + (1 : Int)))) (IntKind.wrap IntKind.u8 (Int.fdiv n1 (256 : Int)))) (Int.toNat (IntKind.wrap IntKind.i64 (n + (2 : Int)))) (IntKind.wrap IntKind.u8 (Int.fdiv n1 (65536 : Int))))))
 (k (nset (nset (nset (nset l (Int.toNat n) (IntKind.wrap IntKind.u8 n1)) (Int.toNat (IntKind.wrap IntKind.i64 (n + (1 : Int)))) (IntKind.wrap IntKind.u8 (Int.fdiv n1 (256 : Int)))) (Int.toNat (IntKind.wrap IntKind.i64 (n + (2 : Int)))) (IntKind.wrap IntKind.u8 (Int.fdiv n1 (65536 : Int)))) (Int.toNat (IntKind.wrap IntKind.i64 (n + (3 : Int)))) (IntKind.wrap IntKind.u8 (Int.fdiv n1 (16777216 : Int)))))
 none))
 none)
 none))
 none)
 none))
 none)
 none))
 none)
theorem e_impl_yputWord_w (N : Nat) {R : Type} (b : Bool) (n : Int) (n1 : Int) (l : List Int) (K : AV → Hp E → Option R) :
    runFnI (E := E) (O_impl_yputWord_w N) (noIt) sl_impl_yputWord_w J_impl_yputWord_w Try.f34 [(AV.sc (SV.slc 0 none b)), (AV.sc (SV.int IntKind.i64 n)), (AV.sc (SV.int IntKind.i64 n1))] [(some (HE.mk false (HB.rows (B.u8 l))))] K =
      g_impl_yputWord_w N b n n1 l (fun l1 => K (AV.tup []) [(some (HE.mk false (HB.rows (B.u8 l1))))]) := by kernel_rfl
noncomputable def o_impl_yputWord_w (N : Nat) {R : Type} (args : List AV) (H : Hp E) (K : AV → Hp E → Option R) : Option R :=
 match args, H with
 | [(AV.sc (SV.slc 0 none b)), (AV.sc (SV.int IntKind.i64 n)), (AV.sc (SV.int IntKind.i64 n1))], [(some (HE.mk false (HB.rows (B.u8 l))))] => g_impl_yputWord_w N b n n1 l (fun l1 => K (AV.tup []) [(some (HE.mk false (HB.rows (B.u8 l1))))])
 | _, _ => none
theorem o_impl_yputWord_w_ok (N : Nat) : FnOk E 34 (o_impl_yputWord_w N) := by
  intro R args H K r h
  unfold o_impl_yputWord_w at h
  dsimp only at h
  split at h
  · exact fnB_ok (ids := []) (top := []) ok (O_impl_yputWord_w_ok N) (jn_ok _ _ _) Try.func34 (by kernel_rfl) (IT := noIt) (sl := sl_impl_yputWord_w) (J := J_impl_yputWord_w) (K := K) (H := [(some (HE.mk false (HB.rows (B.u8 _))))]) (noIt_ok) (by kernel_rfl) rfl ((e_impl_yputWord_w N _ _ _ _ K).trans h)
  · cases h
/-! ### loop.example/g00038/impl.ydma -/
abbrev sl_impl_ydma : SlotT := [(0, ([1, 2, 3, 4, 12, 13, 14], [10, 11, 12, 13, 14]))]
abbrev J_impl_ydma : JT := jn [(1, [(40, .b)])] [] []
noncomputable def O_impl_ydma (N : Nat) : Orc E := addFn 34 (o_impl_yputWord_w N) (addFn 32 (o_impl_ylookup_w N) (addFn 42 (o_impl_yin N) (addFn 30 (o_impl_ymemOk N) (noFn))))
noncomputable def pa_impl_ydma__o_impl_yputWord_w (N : Nat) (G_impl_yputWord_w : ∀ {R : Type} (b : Bool) (n : Int) (n1 : Int) (l : List Int) (k : (List Int) → Option R), Option R) {R : Type} (args : List AV) (H : Hp E) (K : AV → Hp E → Option R) : Option R :=
 match args, H with
 | [(AV.sc (SV.slc 0 none b)), (AV.sc (SV.int IntKind.i64 n)), (AV.sc (SV.int IntKind.i64 n1))], [(some (HE.mk false (HB.rows (B.u8 l))))] => G_impl_yputWord_w b n n1 l (fun l1 => K (AV.tup []) [(some (HE.mk false (HB.rows (B.u8 l1))))])
 | _, _ => none
noncomputable def pa_impl_ydma__o_impl_ylookup_w (N : Nat) (G_impl_ylookup_w : ∀ {R : Type} (b : Bool) (n : Int) (n1 : Int) (n2 : Int) (b1 : Bool) (l : List Int) (k : Int → Int → Int → Int → Int → Bool → Int → Int → Int → Option R), Option R) {R : Type} (args : List AV) (H : Hp E) (K : AV → Hp E → Option R) : Option R :=
 match args, H with
 | [(AV.sc (SV.slc 0 none b)), (AV.sc (SV.int IntKind.i64 n)), (AV.sc (SV.int IntKind.i64 n1)), (AV.sc (SV.int IntKind.i64 n2)), (AV.sc (SV.bool b1))], [(some (HE.mk false (HB.rows (B.u8 l))))] => G_impl_ylookup_w b n n1 n2 b1 l (fun n11 n12 n13 n14 n15 b4 n16 n17 n18 => K (AV.agg [(SV.int IntKind.i64 n11), (SV.int IntKind.i64 n12), (SV.int IntKind.i64 n13), (SV.int IntKind.i64 n14), (SV.int IntKind.i64 n15), (SV.bool b4), (SV.int IntKind.i64 n16), (SV.int IntKind.i64 n17), (SV.int IntKind.i64 n18)]) [(some (HE.mk false (HB.rows (B.u8 l))))])
 | _, _ => none
noncomputable def pa_impl_ydma__o_impl_yin (N : Nat) (G_impl_yin : ∀ {R : Type} (n : Int) (n1 : Int) (n2 : Int) (k : Bool → Option R), Option R) {R : Type} (args : List AV) (H : Hp E) (K : AV → Hp E → Option R) : Option R :=
 match args, H with
 | [(AV.sc (SV.int IntKind.i64 n)), (AV.sc (SV.int IntKind.i64 n1)), (AV.sc (SV.int IntKind.i64 n2))], [] => G_impl_yin n n1 n2 (fun b => K (AV.sc (SV.bool b)) [])
 | _, _ => none
noncomputable def pa_impl_ydma__o_impl_ymemOk (N : Nat) (G_impl_ymemOk : ∀ {R : Type} (s : ByteArray) (k : Bool → Option R), Option R) {R : Type} (args : List AV) (H : Hp E) (K : AV → Hp E → Option R) : Option R :=
 match args, H with
 | [(AV.sc (SV.str s))], [] => G_impl_ymemOk s (fun b => K (AV.sc (SV.bool b)) [])
 | _, _ => none
noncomputable def OA_impl_ydma (N : Nat) (G_impl_yputWord_w : ∀ {R : Type} (b : Bool) (n : Int) (n1 : Int) (l : List Int) (k : (List Int) → Option R), Option R) (G_impl_ylookup_w : ∀ {R : Type} (b : Bool) (n : Int) (n1 : Int) (n2 : Int) (b1 : Bool) (l : List Int) (k : Int → Int → Int → Int → Int → Bool → Int → Int → Int → Option R), Option R) (G_impl_yin : ∀ {R : Type} (n : Int) (n1 : Int) (n2 : Int) (k : Bool → Option R), Option R) (G_impl_ymemOk : ∀ {R : Type} (s : ByteArray) (k : Bool → Option R), Option R) : Orc E := addFn 34 (pa_impl_ydma__o_impl_yputWord_w N G_impl_yputWord_w) (addFn 32 (pa_impl_ydma__o_impl_ylookup_w N G_impl_ylookup_w) (addFn 42 (pa_impl_ydma__o_impl_yin N G_impl_yin) (addFn 30 (pa_impl_ydma__o_impl_ymemOk N G_impl_ymemOk) (noFn))))
theorem O_impl_ydma_ok (N : Nat) : OrcOk (O_impl_ydma N) := addFn_ok (o_impl_yputWord_w_ok N) (addFn_ok (o_impl_ylookup_w_ok N) (addFn_ok (o_impl_yin_ok N) (addFn_ok (o_impl_ymemOk_ok N) (noFn_ok))))
noncomputable def s_impl_ydma_0 (N : Nat) {R : Type} (n4 : Int) (n7 : Int) (b4 : Bool) (n8 : Int) (n9 : Int) (s1 : ByteArray) (s2 : ByteArray) (n5 : Int) (n6 : Int) (b5 : Bool) (l : List Int) (l1 : List A2i64) (ag : Int → Int → Bool → (List Int) → (List A2i64) → Option R)  (kR : Bool → Int → (List Int) → (List A2i64) → Option R) (kN : Bool → (List Int) → (List A2i64) → Option R) : Option R :=
 (cond (decide ((n6 > (0 : Int))))
 (g_impl_ylookup_w N b4 n4 n5 n7 true l fun n10 n11 n12 n13 n14 b6 n15 n16 n17 =>
 (cond (n10 != (0 : Int))
 (kR b5 n5 l l1)
 (g_impl_yputWord_w N b4 n12 n14 l fun l2 =>
 (cond (Go.Eng.roomOk ((List.length l1) + (List.length [(A2i64.mk n11 (if ((decide (((IntKind.wrap IntKind.i64 ((256 : Int) - (Int.tmod n5 (256 : Int)))) < n6))) = true) then (IntKind.wrap IntKind.i64 ((256 : Int) - (Int.tmod n5 (256 : Int)))) else n6))])) 16)
 (ag (IntKind.wrap IntKind.i64 (n5 + (if ((decide (((IntKind.wrap IntKind.i64 ((256 : Int) - (Int.tmod n5 (256 : Int)))) < n6))) = true) then (IntKind.wrap IntKind.i64 ((256 : Int) - (Int.tmod n5 (256 : Int)))) else n6))) (IntKind.wrap IntKind.i64 (n6 - (if ((decide (((IntKind.wrap IntKind.i64 ((256 : Int) - (Int.tmod n5 (256 : Int)))) < n6))) = true) then (IntKind.wrap IntKind.i64 ((256 : Int) - (Int.tmod n5 (256 : Int)))) else n6))) (cond (Nat.beq (List.length [(A2i64.mk n11 (if ((decide (((IntKind.wrap IntKind.i64 ((256 : Int) - (Int.tmod n5 (256 : Int)))) < n6))) = true) then (IntKind.wrap IntKind.i64 ((256 : Int) - (Int.tmod n5 (256 : Int)))) else n6))]) 0) b5 false) l2 (l1 ++ [(A2i64.mk n11 (if ((decide (((IntKind.wrap IntKind.i64 ((256 : Int) - (Int.tmod n5 (256 : Int)))) < n6))) = true) then (IntKind.wrap IntKind.i64 ((256 : Int) - (Int.tmod n5 (256 : Int)))) else n6))]))
 none))))
 (kN b5 l l1))
noncomputable def ga_s_impl_ydma_0 (N : Nat) (G_impl_yputWord_w : ∀ {R : Type} (b : Bool) (n : Int) (n1 : Int) (l : List Int) (k : (List Int) → Option R), Option R) (G_impl_ylookup_w : ∀ {R : Type} (b : Bool) (n : Int) (n1 : Int) (n2 : Int) (b1 : Bool) (l : List Int) (k : Int → Int → Int → Int → Int → Bool → Int → Int → Int → Option R), Option R) (G_impl_yin : ∀ {R : Type} (n : Int) (n1 : Int) (n2 : Int) (k : Bool → Option R), Option R) (G_impl_ymemOk : ∀ {R : Type} (s : ByteArray) (k : Bool → Option R), Option R) {R : Type} (n4 : Int) (n7 : Int) (b4 : Bool) (n8 : Int) (n9 : Int) (s1 : ByteArray) (s2 : ByteArray) (n5 : Int) (n6 : Int) (b5 : Bool) (l : List Int) (l1 : List A2i64) (ag : Int → Int → Bool → (List Int) → (List A2i64) → Option R)  (kR : Bool → Int → (List Int) → (List A2i64) → Option R) (kN : Bool → (List Int) → (List A2i64) → Option R) : Option R :=
 (cond (decide ((n6 > (0 : Int))))
 (G_impl_ylookup_w b4 n4 n5 n7 true l fun n10 n11 n12 n13 n14 b6 n15 n16 n17 =>
 (cond (n10 != (0 : Int))
 (kR b5 n5 l l1)
 (G_impl_yputWord_w b4 n12 n14 l fun l2 =>
 (cond (Go.Eng.roomOk ((List.length l1) + (List.length [(A2i64.mk n11 (if ((decide (((IntKind.wrap IntKind.i64 ((256 : Int) - (Int.tmod n5 (256 : Int)))) < n6))) = true) then (IntKind.wrap IntKind.i64 ((256 : Int) - (Int.tmod n5 (256 : Int)))) else n6))])) 16)
 (ag (IntKind.wrap IntKind.i64 (n5 + (if ((decide (((IntKind.wrap IntKind.i64 ((256 : Int) - (Int.tmod n5 (256 : Int)))) < n6))) = true) then (IntKind.wrap IntKind.i64 ((256 : Int) - (Int.tmod n5 (256 : Int)))) else n6))) (IntKind.wrap IntKind.i64 (n6 - (if ((decide (((IntKind.wrap IntKind.i64 ((256 : Int) - (Int.tmod n5 (256 : Int)))) < n6))) = true) then (IntKind.wrap IntKind.i64 ((256 : Int) - (Int.tmod n5 (256 : Int)))) else n6))) (cond (Nat.beq (List.length [(A2i64.mk n11 (if ((decide (((IntKind.wrap IntKind.i64 ((256 : Int) - (Int.tmod n5 (256 : Int)))) < n6))) = true) then (IntKind.wrap IntKind.i64 ((256 : Int) - (Int.tmod n5 (256 : Int)))) else n6))]) 0) b5 false) l2 (l1 ++ [(A2i64.mk n11 (if ((decide (((IntKind.wrap IntKind.i64 ((256 : Int) - (Int.tmod n5 (256 : Int)))) < n6))) = true) then (IntKind.wrap IntKind.i64 ((256 : Int) - (Int.tmod n5 (256 : Int)))) else n6))]))
 none))))
 (kN b5 l l1))
noncomputable def l_impl_ydma_0 (N : Nat) {R : Type} (n4 : Int) (n7 : Int) (b4 : Bool) (n8 : Int) (n9 : Int) (s1 : ByteArray) (s2 : ByteArray) (kR : Bool → Int → (List Int) → (List A2i64) → Option R) (kN : Bool → (List Int) → (List A2i64) → Option R) : Nat → Int → Int → Bool → (List Int) → (List A2i64) → Option R
 | 0, _, _, _, _, _ => none
 | f + 1, n5, n6, b5, l, l1 => s_impl_ydma_0 N n4 n7 b4 n8 n9 s1 s2 n5 n6 b5 l l1 (fun n5 n6 b5 l l1 => l_impl_ydma_0 N n4 n7 b4 n8 n9 s1 s2 kR kN f n5 n6 b5 l l1)  kR kN
noncomputable def c_impl_ydma_0 (N : Nat) {R : Type} (n4 : Int) (n7 : Int) (b4 : Bool) (n8 : Int) (n9 : Int) (s1 : ByteArray) (s2 : ByteArray) (n5 : Int) (n6 : Int) (b5 : Bool) (l : List Int) (l1 : List A2i64) (kR : Bool → Int → (List Int) → (List A2i64) → Option R) (kN : Bool → (List Int) → (List A2i64) → Option R) : Option R := l_impl_ydma_0 N n4 n7 b4 n8 n9 s1 s2 kR kN N n5 n6 b5 l l1
theorem ea_se_impl_ydma_0 (N : Nat) (G_impl_yputWord_w : ∀ {R : Type} (b : Bool) (n : Int) (n1 : Int) (l : List Int) (k : (List Int) → Option R), Option R) (G_impl_ylookup_w : ∀ {R : Type} (b : Bool) (n : Int) (n1 : Int) (n2 : Int) (b1 : Bool) (l : List Int) (k : Int → Int → Int → Int → Int → Bool → Int → Int → Int → Option R), Option R) (G_impl_yin : ∀ {R : Type} (n : Int) (n1 : Int) (n2 : Int) (k : Bool → Option R), Option R) (G_impl_ymemOk : ∀ {R : Type} (s : ByteArray) (k : Bool → Option R), Option R) {R : Type} (n4 : Int) (n7 : Int) (b4 : Bool) (n8 : Int) (n9 : Int) (s1 : ByteArray) (s2 : ByteArray) (n5 : Int) (n6 : Int) (b5 : Bool) (l : List Int) (l1 : List A2i64) (AG : List (Option AV) → Hp E → Option R) (KL : Ex → List (Option AV) → Hp E → Option R) :
    iterStep (E := E) (OA_impl_ydma N G_impl_yputWord_w G_impl_ylookup_w G_impl_yin G_impl_ymemOk) (fun {R} => LI (noIt) 0 83 sl_impl_ydma (R := R)) J_impl_ydma 0 83 0 [1, 2, 3, 4, 12, 13, 14] [10, 11, 12, 13, 14] (body Try.f64 0) AG KL [(some (AV.sc (SV.int IntKind.i64 n4))), (some (AV.sc (SV.int IntKind.i64 n5))), (some (AV.sc (SV.int IntKind.i64 n6))), (some (AV.sc (SV.int IntKind.i64 n7))), (some (AV.sc (SV.ptr 0 0 0))), (some (AV.sc (SV.slc 1 none b4))), (some (AV.sc (SV.slc 2 none b5)))] [(some (HE.mk false (HB.exp none [(SV.int IntKind.i64 n8), (SV.int IntKind.i64 n9), (SV.str s1), (SV.str s2)]))), (some (HE.mk false (HB.rows (B.u8 l)))), (some (HE.mk false (HB.rows (B.aA2i64 l1))))] =
      ga_s_impl_ydma_0 N G_impl_yputWord_w G_impl_ylookup_w G_impl_yin G_impl_ymemOk n4 n7 b4 n8 n9 s1 s2 n5 n6 b5 l l1 (fun n5 n6 b5 l l1 => AG [(some (AV.sc (SV.int IntKind.i64 n4))), (some (AV.sc (SV.int IntKind.i64 n5))), (some (AV.sc (SV.int IntKind.i64 n6))), (some (AV.sc (SV.int IntKind.i64 n7))), (some (AV.sc (SV.ptr 0 0 0))), (some (AV.sc (SV.slc 1 none b4))), (some (AV.sc (SV.slc 2 none b5)))] [(some (HE.mk false (HB.exp none [(SV.int IntKind.i64 n8), (SV.int IntKind.i64 n9), (SV.str s1), (SV.str s2)]))), (some (HE.mk false (HB.rows (B.u8 l)))), (some (HE.mk false (HB.rows (B.aA2i64 l1))))])  (fun b11 n21 l9 l10 => KL Ex.ret [(some (AV.sc (SV.slc 0 none true))), (some (AV.sc (SV.slc 1 none true))), (some (AV.sc (SV.ptr 2 0 0))), (some (AV.sc (SV.slc 3 none b4))), (some (AV.sc (SV.slc 4 none b11)))] [(some (HE.mk false (HB.rows (B.u8 [])))), (some (HE.mk false (HB.rows (B.aA2i64 [])))), (some (HE.mk false (HB.exp none [(SV.int IntKind.i64 (7 : Int)), (SV.int IntKind.i64 n21), (SV.str (ByteArray.mk (List.toArray []))), (SV.str (ByteArray.mk (List.toArray [])))]))), (some (HE.mk false (HB.rows (B.u8 l9)))), (some (HE.mk false (HB.rows (B.aA2i64 l10))))]) (fun b12 l11 l12 => KL Ex.normal [none, none, (some (AV.sc (SV.ptr 0 0 0))), (some (AV.sc (SV.slc 1 none b4))), (some (AV.sc (SV.slc 2 none b12)))] [(some (HE.mk false (HB.exp none [(SV.int IntKind.i64 n8), (SV.int IntKind.i64 n9), (SV.str s1), (SV.str s2)]))), (some (HE.mk false (HB.rows (B.u8 l11)))), (some (HE.mk false (HB.rows (B.aA2i64 l12))))]) := by kernel_rfl
theorem se_impl_ydma_0 (N : Nat) {R : Type} (n4 : Int) (n7 : Int) (b4 : Bool) (n8 : Int) (n9 : Int) (s1 : ByteArray) (s2 : ByteArray) (n5 : Int) (n6 : Int) (b5 : Bool) (l : List Int) (l1 : List A2i64) (AG : List (Option AV) → Hp E → Option R) (KL : Ex → List (Option AV) → Hp E → Option R) :
    iterStep (E := E) (O_impl_ydma N) (fun {R} => LI (noIt) 0 83 sl_impl_ydma (R := R)) J_impl_ydma 0 83 0 [1, 2, 3, 4, 12, 13, 14] [10, 11, 12, 13, 14] (body Try.f64 0) AG KL [(some (AV.sc (SV.int IntKind.i64 n4))), (some (AV.sc (SV.int IntKind.i64 n5))), (some (AV.sc (SV.int IntKind.i64 n6))), (some (AV.sc (SV.int IntKind.i64 n7))), (some (AV.sc (SV.ptr 0 0 0))), (some (AV.sc (SV.slc 1 none b4))), (some (AV.sc (SV.slc 2 none b5)))] [(some (HE.mk false (HB.exp none [(SV.int IntKind.i64 n8), (SV.int IntKind.i64 n9), (SV.str s1), (SV.str s2)]))), (some (HE.mk false (HB.rows (B.u8 l)))), (some (HE.mk false (HB.rows (B.aA2i64 l1))))] =
      s_impl_ydma_0 N n4 n7 b4 n8 n9 s1 s2 n5 n6 b5 l l1 (fun n5 n6 b5 l l1 => AG [(some (AV.sc (SV.int IntKind.i64 n4))), (some (AV.sc (SV.int IntKind.i64 n5))), (some (AV.sc (SV.int IntKind.i64 n6))), (some (AV.sc (SV.int IntKind.i64 n7))), (some (AV.sc (SV.ptr 0 0 0))), (some (AV.sc (SV.slc 1 none b4))), (some (AV.sc (SV.slc 2 none b5)))] [(some (HE.mk false (HB.exp none [(SV.int IntKind.i64 n8), (SV.int IntKind.i64 n9), (SV.str s1), (SV.str s2)]))), (some (HE.mk false (HB.rows (B.u8 l)))), (some (HE.mk false (HB.rows (B.aA2i64 l1))))])  (fun b11 n21 l9 l10 => KL Ex.ret [(some (AV.sc (SV.slc 0 none true))), (some (AV.sc (SV.slc 1 none true))), (some (AV.sc (SV.ptr 2 0 0))), (some (AV.sc (SV.slc 3 none b4))), (some (AV.sc (SV.slc 4 none b11)))] [(some (HE.mk false (HB.rows (B.u8 [])))), (some (HE.mk false (HB.rows (B.aA2i64 [])))), (some (HE.mk false (HB.exp none [(SV.int IntKind.i64 (7 : Int)), (SV.int IntKind.i64 n21), (SV.str (ByteArray.mk (List.toArray []))), (SV.str (ByteArray.mk (List.toArray [])))]))), (some (HE.mk false (HB.rows (B.u8 l9)))), (some (HE.mk false (HB.rows (B.aA2i64 l10))))]) (fun b12 l11 l12 => KL Ex.normal [none, none, (some (AV.sc (SV.ptr 0 0 0))), (some (AV.sc (SV.slc 1 none b4))), (some (AV.sc (SV.slc 2 none b12)))] [(some (HE.mk false (HB.exp none [(SV.int IntKind.i64 n8), (SV.int IntKind.i64 n9), (SV.str s1), (SV.str s2)]))), (some (HE.mk false (HB.rows (B.u8 l11)))), (some (HE.mk false (HB.rows (B.aA2i64 l12))))]) := castPr (by kernel_rfl) (ea_se_impl_ydma_0 N (g_impl_yputWord_w N) (g_impl_ylookup_w N) (g_impl_yin N) (g_impl_ymemOk N) n4 n7 b4 n8 n9 s1 s2 n5 n6 b5 l l1 AG KL)
theorem le_impl_ydma_0 (N : Nat) {R : Type} (n4 : Int) (n7 : Int) (b4 : Bool) (n8 : Int) (n9 : Int) (s1 : ByteArray) (s2 : ByteArray) (KL : Ex → List (Option AV) → Hp E → Option R) : ∀ (f : Nat), ∀ (n5 : Int) (n6 : Int) (b5 : Bool) (l : List Int) (l1 : List A2i64), iterK (E := E) (O_impl_ydma N) (fun {R} => LI (noIt) 0 83 sl_impl_ydma (R := R)) J_impl_ydma 0 83 0 [1, 2, 3, 4, 12, 13, 14] [10, 11, 12, 13, 14] (body Try.f64 0) f [(some (AV.sc (SV.int IntKind.i64 n4))), (some (AV.sc (SV.int IntKind.i64 n5))), (some (AV.sc (SV.int IntKind.i64 n6))), (some (AV.sc (SV.int IntKind.i64 n7))), (some (AV.sc (SV.ptr 0 0 0))), (some (AV.sc (SV.slc 1 none b4))), (some (AV.sc (SV.slc 2 none b5)))] [(some (HE.mk false (HB.exp none [(SV.int IntKind.i64 n8), (SV.int IntKind.i64 n9), (SV.str s1), (SV.str s2)]))), (some (HE.mk false (HB.rows (B.u8 l)))), (some (HE.mk false (HB.rows (B.aA2i64 l1))))] KL = l_impl_ydma_0 N n4 n7 b4 n8 n9 s1 s2 (fun b11 n21 l9 l10 => KL Ex.ret [(some (AV.sc (SV.slc 0 none true))), (some (AV.sc (SV.slc 1 none true))), (some (AV.sc (SV.ptr 2 0 0))), (some (AV.sc (SV.slc 3 none b4))), (some (AV.sc (SV.slc 4 none b11)))] [(some (HE.mk false (HB.rows (B.u8 [])))), (some (HE.mk false (HB.rows (B.aA2i64 [])))), (some (HE.mk false (HB.exp none [(SV.int IntKind.i64 (7 : Int)), (SV.int IntKind.i64 n21), (SV.str (ByteArray.mk (List.toArray []))), (SV.str (ByteArray.mk (List.toArray [])))]))), (some (HE.mk false (HB.rows (B.u8 l9)))), (some (HE.mk false (HB.rows (B.aA2i64 l10))))]) (fun b12 l11 l12 => KL Ex.normal [none, none, (some (AV.sc (SV.ptr 0 0 0))), (some (AV.sc (SV.slc 1 none b4))), (some (AV.sc (SV.slc 2 none b12)))] [(some (HE.mk false (HB.exp none [(SV.int IntKind.i64 n8), (SV.int IntKind.i64 n9), (SV.str s1), (SV.str s2)]))), (some (HE.mk false (HB.rows (B.u8 l11)))), (some (HE.mk false (HB.rows (B.aA2i64 l12))))]) f n5 n6 b5 l l1 := by
  intro f
  induction f with
  | zero => intros; rfl
  | succ f ih =>
    intro n5 n6 b5 l l1
    rw [iterK_succ, se_impl_ydma_0]
    exact (congrArg (fun z0 => s_impl_ydma_0 N n4 n7 b4 n8 n9 s1 s2 n5 n6 b5 l l1 z0 (fun b11 n21 l9 l10 => KL Ex.ret [(some (AV.sc (SV.slc 0 none true))), (some (AV.sc (SV.slc 1 none true))), (some (AV.sc (SV.ptr 2 0 0))), (some (AV.sc (SV.slc 3 none b4))), (some (AV.sc (SV.slc 4 none b11)))] [(some (HE.mk false (HB.rows (B.u8 [])))), (some (HE.mk false (HB.rows (B.aA2i64 [])))), (some (HE.mk false (HB.exp none [(SV.int IntKind.i64 (7 : Int)), (SV.int IntKind.i64 n21), (SV.str (ByteArray.mk (List.toArray []))), (SV.str (ByteArray.mk (List.toArray [])))]))), (some (HE.mk false (HB.rows (B.u8 l9)))), (some (HE.mk false (HB.rows (B.aA2i64 l10))))]) (fun b12 l11 l12 => KL Ex.normal [none, none, (some (AV.sc (SV.ptr 0 0 0))), (some (AV.sc (SV.slc 1 none b4))), (some (AV.sc (SV.slc 2 none b12)))] [(some (HE.mk false (HB.exp none [(SV.int IntKind.i64 n8), (SV.int IntKind.i64 n9), (SV.str s1), (SV.str s2)]))), (some (HE.mk false (HB.rows (B.u8 l11)))), (some (HE.mk false (HB.rows (B.aA2i64 l12))))])) (funext fun n5 => funext fun n6 => funext fun b5 => funext fun l => funext fun l1 => ih n5 n6 b5 l l1))
noncomputable def i_impl_ydma_0 (N : Nat) {R : Type} (vs : List (Option AV)) (H : Hp E) (KL : Ex → List (Option AV) → Hp E → Option R) : Option R :=
 match vs, H with
 | [(some (AV.sc (SV.int IntKind.i64 n4))), (some (AV.sc (SV.int IntKind.i64 n5))), (some (AV.sc (SV.int IntKind.i64 n6))), (some (AV.sc (SV.int IntKind.i64 n7))), (some (AV.sc (SV.ptr 0 0 0))), (some (AV.sc (SV.slc 1 none b4))), (some (AV.sc (SV.slc 2 none b5)))], [(some (HE.mk false (HB.exp none [(SV.int IntKind.i64 n8), (SV.int IntKind.i64 n9), (SV.str s1), (SV.str s2)]))), (some (HE.mk false (HB.rows (B.u8 l)))), (some (HE.mk false (HB.rows (B.aA2i64 l1))))] => c_impl_ydma_0 N n4 n7 b4 n8 n9 s1 s2 n5 n6 b5 l l1 (fun b13 n22 l13 l14 => KL Ex.ret [(some (AV.sc (SV.slc 0 none true))), (some (AV.sc (SV.slc 1 none true))), (some (AV.sc (SV.ptr 2 0 0))), (some (AV.sc (SV.slc 3 none b4))), (some (AV.sc (SV.slc 4 none b13)))] [(some (HE.mk false (HB.rows (B.u8 [])))), (some (HE.mk false (HB.rows (B.aA2i64 [])))), (some (HE.mk false (HB.exp none [(SV.int IntKind.i64 (7 : Int)), (SV.int IntKind.i64 n22), (SV.str (ByteArray.mk (List.toArray []))), (SV.str (ByteArray.mk (List.toArray [])))]))), (some (HE.mk false (HB.rows (B.u8 l13)))), (some (HE.mk false (HB.rows (B.aA2i64 l14))))]) (fun b14 l15 l16 => KL Ex.normal [none, none, (some (AV.sc (SV.ptr 0 0 0))), (some (AV.sc (SV.slc 1 none b4))), (some (AV.sc (SV.slc 2 none b14)))] [(some (HE.mk false (HB.exp none [(SV.int IntKind.i64 n8), (SV.int IntKind.i64 n9), (SV.str s1), (SV.str s2)]))), (some (HE.mk false (HB.rows (B.u8 l15)))), (some (HE.mk false (HB.rows (B.aA2i64 l16))))])
 | _, _ => none
noncomputable def IT_impl_ydma_0 (N : Nat) : Its E := addIt 0 (i_impl_ydma_0 N) (noIt)
theorem IT_impl_ydma_0_ok (N : Nat) : ItOk (IT_impl_ydma_0 N) 0 83 sl_impl_ydma (lsB Try.f64 [0]) :=
  addItB_ok (inner := []) ok (O_impl_ydma_ok N) (jn_ok _ _ _) (noIt_ok) rfl (by kernel_rfl) rfl fun vs H KL r h => by
    unfold i_impl_ydma_0 at h
    split at h
    · exact ⟨_, (le_impl_ydma_0 N _ _ _ _ _ _ _ KL N _ _ _ _ _).trans h⟩
    · cases h
noncomputable def g_impl_ydma (N : Nat) {R : Type} (s : ByteArray) (n : Int) (n1 : Int) (n2 : Int) (n3 : Int) (k : Bool → Bool → Int → Int → (List Int) → (List A2i64) → Option R) : Option R :=
 (oK (g_impl_ymemOk N s fun b =>
 (cond (!b)
 (some true)
 (g_impl_yin N n (0 : Int) (255 : Int) fun b1 =>
 (cond (!b1)
 (some true)
 (g_impl_yin N n1 (0 : Int) (262143 : Int) fun b2 =>
 (cond (!b2)
 (some true)
 (g_impl_yin N n2 (0 : Int) (65536 : Int) fun b3 =>
 (cond (!b3)
 (some true)
 (some (decide ((n2 > (IntKind.wrap IntKind.i64 ((262144 : Int) - n1)))))))))))))) fun j =>
 (cond j
 (k true true (1 : Int) (0 : Int) [] [])
 (c_impl_ydma_0 N n n3 false (0 : Int) (0 : Int) (ByteArray.mk (List.toArray [])) (ByteArray.mk (List.toArray [])) n1 n2 true (Go.Eng.ofBytes s) [] (fun b7 n18 l3 l4 =>
 (k true true (7 : Int) n18 [] [])) (fun b8 l5 l6 =>
 (k false b8 (0 : Int) (0 : Int) l5 l6)))))
noncomputable def ga_g_impl_ydma (N : Nat) (G_impl_yputWord_w : ∀ {R : Type} (b : Bool) (n : Int) (n1 : Int) (l : List Int) (k : (List Int) → Option R), Option R) (G_impl_ylookup_w : ∀ {R : Type} (b : Bool) (n : Int) (n1 : Int) (n2 : Int) (b1 : Bool) (l : List Int) (k : Int → Int → Int → Int → Int → Bool → Int → Int → Int → Option R), Option R) (G_impl_yin : ∀ {R : Type} (n : Int) (n1 : Int) (n2 : Int) (k : Bool → Option R), Option R) (G_impl_ymemOk : ∀ {R : Type} (s : ByteArray) (k : Bool → Option R), Option R) {R : Type} (s : ByteArray) (n : Int) (n1 : Int) (n2 : Int) (n3 : Int) (k : Bool → Bool → Int → Int → (List Int) → (List A2i64) → Option R) : Option R :=
 (oK (G_impl_ymemOk s fun b =>
 (cond (!b)
 (some true)
 (G_impl_yin n (0 : Int) (255 : Int) fun b1 =>
 (cond (!b1)
 (some true)
 (G_impl_yin n1 (0 : Int) (262143 : Int) fun b2 =>
 (cond (!b2)
 (some true)
 (G_impl_yin n2 (0 : Int) (65536 : Int) fun b3 =>
 (cond (!b3)
 (some true)
 (some (decide ((n2 > (IntKind.wrap IntKind.i64 ((262144 : Int) - n1)))))))))))))) fun j =>
 (cond j
 (k true true (1 : Int) (0 : Int) [] [])
 (c_impl_ydma_0 N n n3 false (0 : Int) (0 : Int) (ByteArray.mk (List.toArray [])) (ByteArray.mk (List.toArray [])) n1 n2 true (Go.Eng.ofBytes s) [] (fun b7 n18 l3 l4 =>
 (k true true (7 : Int) n18 [] [])) (fun b8 l5 l6 =>
 (k false b8 (0 : Int) (0 : Int) l5 l6)))))
theorem ea_e_impl_ydma (N : Nat) (G_impl_yputWord_w : ∀ {R : Type} (b : Bool) (n : Int) (n1 : Int) (l : List Int) (k : (List Int) → Option R), Option R) (G_impl_ylookup_w : ∀ {R : Type} (b : Bool) (n : Int) (n1 : Int) (n2 : Int) (b1 : Bool) (l : List Int) (k : Int → Int → Int → Int → Int → Bool → Int → Int → Int → Option R), Option R) (G_impl_yin : ∀ {R : Type} (n : Int) (n1 : Int) (n2 : Int) (k : Bool → Option R), Option R) (G_impl_ymemOk : ∀ {R : Type} (s : ByteArray) (k : Bool → Option R), Option R) {R : Type} (s : ByteArray) (n : Int) (n1 : Int) (n2 : Int) (n3 : Int) (K : AV → Hp E → Option R) :
    runFnI (E := E) (OA_impl_ydma N G_impl_yputWord_w G_impl_ylookup_w G_impl_yin G_impl_ymemOk) (IT_impl_ydma_0 N) sl_impl_ydma J_impl_ydma Try.f64 [(AV.sc (SV.str s)), (AV.sc (SV.int IntKind.i64 n)), (AV.sc (SV.int IntKind.i64 n1)), (AV.sc (SV.int IntKind.i64 n2)), (AV.sc (SV.int IntKind.i64 n3))] [] K =
      ga_g_impl_ydma N G_impl_yputWord_w G_impl_ylookup_w G_impl_yin G_impl_ymemOk s n n1 n2 n3 (fun b9 b10 n19 n20 l7 l8 => K (AV.tup [(false, [(SV.slc 0 none b9)]), (false, [(SV.slc 1 none b10)]), (true, [(SV.int IntKind.i64 n19), (SV.int IntKind.i64 n20), (SV.str (ByteArray.mk (List.toArray []))), (SV.str (ByteArray.mk (List.toArray [])))])]) [(some (HE.mk false (HB.rows (B.u8 l7)))), (some (HE.mk false (HB.rows (B.aA2i64 l8))))]) := by kernel_rfl
theorem e_impl_ydma (N : Nat) {R : Type} (s : ByteArray) (n : Int) (n1 : Int) (n2 : Int) (n3 : Int) (K : AV → Hp E → Option R) :
    runFnI (E := E) (O_impl_ydma N) (IT_impl_ydma_0 N) sl_impl_ydma J_impl_ydma Try.f64 [(AV.sc (SV.str s)), (AV.sc (SV.int IntKind.i64 n)), (AV.sc (SV.int IntKind.i64 n1)), (AV.sc (SV.int IntKind.i64 n2)), (AV.sc (SV.int IntKind.i64 n3))] [] K =
      g_impl_ydma N s n n1 n2 n3 (fun b9 b10 n19 n20 l7 l8 => K (AV.tup [(false, [(SV.slc 0 none b9)]), (false, [(SV.slc 1 none b10)]), (true, [(SV.int IntKind.i64 n19), (SV.int IntKind.i64 n20), (SV.str (ByteArray.mk (List.toArray []))), (SV.str (ByteArray.mk (List.toArray [])))])]) [(some (HE.mk false (HB.rows (B.u8 l7)))), (some (HE.mk false (HB.rows (B.aA2i64 l8))))]) := castPr (by kernel_rfl) (ea_e_impl_ydma N (g_impl_yputWord_w N) (g_impl_ylookup_w N) (g_impl_yin N) (g_impl_ymemOk N) s n n1 n2 n3 K)
noncomputable def o_impl_ydma (N : Nat) {R : Type} (args : List AV) (H : Hp E) (K : AV → Hp E → Option R) : Option R :=
 match args, H with
 | [(AV.sc (SV.str s)), (AV.sc (SV.int IntKind.i64 n)), (AV.sc (SV.int IntKind.i64 n1)), (AV.sc (SV.int IntKind.i64 n2)), (AV.sc (SV.int IntKind.i64 n3))], [] => g_impl_ydma N s n n1 n2 n3 (fun b9 b10 n19 n20 l7 l8 => K (AV.tup [(false, [(SV.slc 0 none b9)]), (false, [(SV.slc 1 none b10)]), (true, [(SV.int IntKind.i64 n19), (SV.int IntKind.i64 n20), (SV.str (ByteArray.mk (List.toArray []))), (SV.str (ByteArray.mk (List.toArray [])))])]) [(some (HE.mk false (HB.rows (B.u8 l7)))), (some (HE.mk false (HB.rows (B.aA2i64 l8))))])
 | _, _ => none
theorem o_impl_ydma_ok (N : Nat) : FnOk E 64 (o_impl_ydma N) := by
  intro R args H K r h
  unfold o_impl_ydma at h
  dsimp only at h
  split at h
  · exact fnB_ok (ids := [0]) (top := [0]) ok (O_impl_ydma_ok N) (jn_ok _ _ _) Try.func64 (by kernel_rfl) (IT := IT_impl_ydma_0 N) (sl := sl_impl_ydma) (J := J_impl_ydma) (K := K) (H := []) (IT_impl_ydma_0_ok N) (by kernel_rfl) rfl ((e_impl_ydma N _ _ _ _ _ K).trans h)
  · cases h
end Go.Sa
