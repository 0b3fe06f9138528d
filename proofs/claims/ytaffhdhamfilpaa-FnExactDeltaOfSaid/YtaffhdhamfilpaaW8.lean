import Derived.Test.YtaffhdhamfilpaaSpec
import Derived.Test.YtaffhdhamfilpaaPLb
import Derived.Test.YtaffhdhamfilpaaW7
set_option linter.all false
namespace Go.Sa
open Go Go.Eng Go.Proofs
set_option maxRecDepth 100000
set_option maxHeartbeats 4000000
/-! ### loop.example/g00038/impl.yframeSet -/
abbrev sl_impl_yframeSet_Fimpl_PackMachine_2_Wwwwww : SlotT := [(0, ([1, 5, 11, 12], [5]))]
abbrev J_impl_yframeSet_Fimpl_PackMachine_2_Wwwwww : JT := jn [] [] []
noncomputable def O_impl_yframeSet_Fimpl_PackMachine_2_Wwwwww (N : Nat) : Orc E := addFn 40 (o_impl_PackMachine_2_Wwwwww N) (noFn)
noncomputable def pa_impl_yframeSet_Fimpl_PackMachine_2_Wwwwww__o_impl_PackMachine_2_Wwwwww (N : Nat) (G_impl_PackMachine_2_Wwwwww : ∀ {R : Type} (n : Int) (n1 : Int) (b : Bool) (n2 : Int) (b1 : Bool) (b2 : Bool) (s : ByteArray) (n3 : Int) (n4 : Int) (n5 : Int) (b3 : Bool) (b4 : Bool) (n6 : Int) (l : List Int) (l1 : List Int) (l2 : List Int) (l3 : List PortValue) (l4 : List PortValue) (k : Bool → Option R), Option R) {R : Type} (args : List AV) (H : Hp E) (K : AV → Hp E → Option R) : Option R :=
 match args, H with
 | [(AV.sc (SV.int IntKind.i64 n)), (AV.sc (SV.ptr 0 0 0))], [(some (HE.mk false (HB.exp none [(SV.int IntKind.i64 n1), (SV.slc 1 none b), (SV.int IntKind.i64 n2), (SV.slc 2 none b1), (SV.slc 3 none b2), (SV.str s), (SV.int IntKind.i64 n3), (SV.int IntKind.i64 n4), (SV.int IntKind.i64 n5), (SV.slc 4 none b3), (SV.slc 5 none b4), (SV.int IntKind.i64 n6)]))), (some (HE.mk false (HB.rows (B.i64 l)))), (some (HE.mk false (HB.rows (B.i64 l1)))), (some (HE.mk false (HB.rows (B.i64 l2)))), (some (HE.mk false (HB.rows (B.iPortValue l3)))), (some (HE.mk false (HB.rows (B.iPortValue l4))))] => G_impl_PackMachine_2_Wwwwww n n1 b n2 b1 b2 s n3 n4 n5 b3 b4 n6 l l1 l2 l3 l4 (fun b6 => K (AV.sc (SV.bool b6)) [(some (HE.mk false (HB.exp none [(SV.int IntKind.i64 n1), (SV.slc 1 none b), (SV.int IntKind.i64 n2), (SV.slc 2 none b1), (SV.slc 3 none b2), (SV.str s), (SV.int IntKind.i64 n3), (SV.int IntKind.i64 n4), (SV.int IntKind.i64 n5), (SV.slc 4 none b3), (SV.slc 5 none b4), (SV.int IntKind.i64 n6)]))), (some (HE.mk false (HB.rows (B.i64 l)))), (some (HE.mk false (HB.rows (B.i64 l1)))), (some (HE.mk false (HB.rows (B.i64 l2)))), (some (HE.mk false (HB.rows (B.iPortValue l3)))), (some (HE.mk false (HB.rows (B.iPortValue l4))))])
 | _, _ => none
noncomputable def OA_impl_yframeSet_Fimpl_PackMachine_2_Wwwwww (N : Nat) (G_impl_PackMachine_2_Wwwwww : ∀ {R : Type} (n : Int) (n1 : Int) (b : Bool) (n2 : Int) (b1 : Bool) (b2 : Bool) (s : ByteArray) (n3 : Int) (n4 : Int) (n5 : Int) (b3 : Bool) (b4 : Bool) (n6 : Int) (l : List Int) (l1 : List Int) (l2 : List Int) (l3 : List PortValue) (l4 : List PortValue) (k : Bool → Option R), Option R) : Orc E := addFn 40 (pa_impl_yframeSet_Fimpl_PackMachine_2_Wwwwww__o_impl_PackMachine_2_Wwwwww N G_impl_PackMachine_2_Wwwwww) (noFn)
theorem O_impl_yframeSet_Fimpl_PackMachine_2_Wwwwww_ok (N : Nat) : OrcOk (O_impl_yframeSet_Fimpl_PackMachine_2_Wwwwww N) := addFn_ok (o_impl_PackMachine_2_Wwwwww_ok N) (noFn_ok)
noncomputable def s_impl_yframeSet_Fimpl_PackMachine_2_Wwwwww_0 (N : Nat) {R : Type} (b5 : Bool) (n7 : Int) (n9 : Int) (b6 : Bool) (n10 : Int) (b7 : Bool) (b8 : Bool) (s1 : ByteArray) (n11 : Int) (n12 : Int) (n13 : Int) (b9 : Bool) (b10 : Bool) (n14 : Int) (l5 : List Int) (l6 : List Int) (l7 : List Int) (l8 : List PortValue) (l9 : List PortValue) (n8 : Int) (l10 : List Int) (ag : Int → (List Int) → Option R)  (kN : (List Int) → Option R) : Option R :=
 (cond (decide ((n8 < n7)))
 (g_impl_PackMachine_2_Wwwwww N n8 n9 b6 n10 b7 b8 s1 n11 n12 n13 b9 b10 n14 l5 l6 l7 l8 l9 fun b11 =>
 (cond b11
 (cond ((decide (((0 : Int) ≤ (IntKind.wrap IntKind.i64 (Int.tdiv n8 (8 : Int)))))) && (decide (((IntKind.wrap IntKind.i64 (Int.tdiv n8 (8 : Int))) < (((List.length l10) : Nat) : Int)))))
 (elemK l10 (Int.toNat (IntKind.wrap IntKind.i64 (Int.tdiv n8 (8 : Int)))) fun x =>
 (cond (decide (((Int.tmod n8 (8 : Int)) < (0 : Int))))
 none
 (cond ((decide (((0 : Int) ≤ (IntKind.wrap IntKind.i64 (Int.tdiv n8 (8 : Int)))))) && (decide (((IntKind.wrap IntKind.i64 (Int.tdiv n8 (8 : Int))) < (((List.length l10) : Nat) : Int)))))
 (elemK l10 (Int.toNat (IntKind.wrap IntKind.i64 (Int.tdiv n8 (8 : Int)))) fun x1 =>
 (cond (Nat.blt (Int.toNat (IntKind.wrap IntKind.i64 (Int.tdiv n8 (8 : Int)))) (List.length l10))
 (ag (IntKind.wrap IntKind.i64 (n8 + (1 : Int))) (nset l10 (Int.toNat (IntKind.wrap IntKind.i64 (Int.tdiv n8 (8 : Int)))) (IntKind.wrap IntKind.u8 (((BitVec.toNat ((BitVec.ofInt 8 x) ||| (BitVec.ofInt 8 (IntKind.wrap IntKind.u8 ((1 : Int) * ((2 : Int) ^ (Min.min (Int.toNat (Int.tmod n8 (8 : Int))) 8))))))) : Nat) : Int))))
 none))
 none)))
 none)
 (ag (IntKind.wrap IntKind.i64 (n8 + (1 : Int))) l10)))
 (kN l10))
noncomputable def ga_s_impl_yframeSet_Fimpl_PackMachine_2_Wwwwww_0 (N : Nat) (G_impl_PackMachine_2_Wwwwww : ∀ {R : Type} (n : Int) (n1 : Int) (b : Bool) (n2 : Int) (b1 : Bool) (b2 : Bool) (s : ByteArray) (n3 : Int) (n4 : Int) (n5 : Int) (b3 : Bool) (b4 : Bool) (n6 : Int) (l : List Int) (l1 : List Int) (l2 : List Int) (l3 : List PortValue) (l4 : List PortValue) (k : Bool → Option R), Option R) {R : Type} (b5 : Bool) (n7 : Int) (n9 : Int) (b6 : Bool) (n10 : Int) (b7 : Bool) (b8 : Bool) (s1 : ByteArray) (n11 : Int) (n12 : Int) (n13 : Int) (b9 : Bool) (b10 : Bool) (n14 : Int) (l5 : List Int) (l6 : List Int) (l7 : List Int) (l8 : List PortValue) (l9 : List PortValue) (n8 : Int) (l10 : List Int) (ag : Int → (List Int) → Option R)  (kN : (List Int) → Option R) : Option R :=
 (cond (decide ((n8 < n7)))
 (G_impl_PackMachine_2_Wwwwww n8 n9 b6 n10 b7 b8 s1 n11 n12 n13 b9 b10 n14 l5 l6 l7 l8 l9 fun b11 =>
 (cond b11
 (cond ((decide (((0 : Int) ≤ (IntKind.wrap IntKind.i64 (Int.tdiv n8 (8 : Int)))))) && (decide (((IntKind.wrap IntKind.i64 (Int.tdiv n8 (8 : Int))) < (((List.length l10) : Nat) : Int)))))
 (elemK l10 (Int.toNat (IntKind.wrap IntKind.i64 (Int.tdiv n8 (8 : Int)))) fun x =>
 (cond (decide (((Int.tmod n8 (8 : Int)) < (0 : Int))))
 none
 (cond ((decide (((0 : Int) ≤ (IntKind.wrap IntKind.i64 (Int.tdiv n8 (8 : Int)))))) && (decide (((IntKind.wrap IntKind.i64 (Int.tdiv n8 (8 : Int))) < (((List.length l10) : Nat) : Int)))))
 (elemK l10 (Int.toNat (IntKind.wrap IntKind.i64 (Int.tdiv n8 (8 : Int)))) fun x1 =>
 (cond (Nat.blt (Int.toNat (IntKind.wrap IntKind.i64 (Int.tdiv n8 (8 : Int)))) (List.length l10))
 (ag (IntKind.wrap IntKind.i64 (n8 + (1 : Int))) (nset l10 (Int.toNat (IntKind.wrap IntKind.i64 (Int.tdiv n8 (8 : Int)))) (IntKind.wrap IntKind.u8 (((BitVec.toNat ((BitVec.ofInt 8 x) ||| (BitVec.ofInt 8 (IntKind.wrap IntKind.u8 ((1 : Int) * ((2 : Int) ^ (Min.min (Int.toNat (Int.tmod n8 (8 : Int))) 8))))))) : Nat) : Int))))
 none))
 none)))
 none)
 (ag (IntKind.wrap IntKind.i64 (n8 + (1 : Int))) l10)))
 (kN l10))
noncomputable def l_impl_yframeSet_Fimpl_PackMachine_2_Wwwwww_0 (N : Nat) {R : Type} (b5 : Bool) (n7 : Int) (n9 : Int) (b6 : Bool) (n10 : Int) (b7 : Bool) (b8 : Bool) (s1 : ByteArray) (n11 : Int) (n12 : Int) (n13 : Int) (b9 : Bool) (b10 : Bool) (n14 : Int) (l5 : List Int) (l6 : List Int) (l7 : List Int) (l8 : List PortValue) (l9 : List PortValue) (kN : (List Int) → Option R) : Nat → Int → (List Int) → Option R
 | 0, _, _ => none
 | f + 1, n8, l10 => s_impl_yframeSet_Fimpl_PackMachine_2_Wwwwww_0 N b5 n7 n9 b6 n10 b7 b8 s1 n11 n12 n13 b9 b10 n14 l5 l6 l7 l8 l9 n8 l10 (fun n8 l10 => l_impl_yframeSet_Fimpl_PackMachine_2_Wwwwww_0 N b5 n7 n9 b6 n10 b7 b8 s1 n11 n12 n13 b9 b10 n14 l5 l6 l7 l8 l9 kN f n8 l10)  kN
noncomputable def c_impl_yframeSet_Fimpl_PackMachine_2_Wwwwww_0 (N : Nat) {R : Type} (b5 : Bool) (n7 : Int) (n9 : Int) (b6 : Bool) (n10 : Int) (b7 : Bool) (b8 : Bool) (s1 : ByteArray) (n11 : Int) (n12 : Int) (n13 : Int) (b9 : Bool) (b10 : Bool) (n14 : Int) (l5 : List Int) (l6 : List Int) (l7 : List Int) (l8 : List PortValue) (l9 : List PortValue) (n8 : Int) (l10 : List Int) (kN : (List Int) → Option R) : Option R := l_impl_yframeSet_Fimpl_PackMachine_2_Wwwwww_0 N b5 n7 n9 b6 n10 b7 b8 s1 n11 n12 n13 b9 b10 n14 l5 l6 l7 l8 l9 kN N n8 l10
theorem ea_se_impl_yframeSet_Fimpl_PackMachine_2_Wwwwww_0 (N : Nat) (G_impl_PackMachine_2_Wwwwww : ∀ {R : Type} (n : Int) (n1 : Int) (b : Bool) (n2 : Int) (b1 : Bool) (b2 : Bool) (s : ByteArray) (n3 : Int) (n4 : Int) (n5 : Int) (b3 : Bool) (b4 : Bool) (n6 : Int) (l : List Int) (l1 : List Int) (l2 : List Int) (l3 : List PortValue) (l4 : List PortValue) (k : Bool → Option R), Option R) {R : Type} (b5 : Bool) (n7 : Int) (n9 : Int) (b6 : Bool) (n10 : Int) (b7 : Bool) (b8 : Bool) (s1 : ByteArray) (n11 : Int) (n12 : Int) (n13 : Int) (b9 : Bool) (b10 : Bool) (n14 : Int) (l5 : List Int) (l6 : List Int) (l7 : List Int) (l8 : List PortValue) (l9 : List PortValue) (n8 : Int) (l10 : List Int) (AG : List (Option AV) → Hp E → Option R) (KL : Ex → List (Option AV) → Hp E → Option R) :
    iterStep (E := E) (OA_impl_yframeSet_Fimpl_PackMachine_2_Wwwwww N G_impl_PackMachine_2_Wwwwww) (fun {R} => LI (noIt) 6 31 sl_impl_yframeSet_Fimpl_PackMachine_2_Wwwwww (R := R)) J_impl_yframeSet_Fimpl_PackMachine_2_Wwwwww 6 31 0 [1, 5, 11, 12] [5] (body Try.f39 0) AG KL [(some (AV.sc (SV.fn 40 [(0, (0, 0))]))), (some (AV.sc (SV.slc 6 none b5))), (some (AV.sc (SV.int IntKind.i64 n7))), (some (AV.sc (SV.int IntKind.i64 n8)))] [(some (HE.mk false (HB.exp none [(SV.int IntKind.i64 n9), (SV.slc 1 none b6), (SV.int IntKind.i64 n10), (SV.slc 2 none b7), (SV.slc 3 none b8), (SV.str s1), (SV.int IntKind.i64 n11), (SV.int IntKind.i64 n12), (SV.int IntKind.i64 n13), (SV.slc 4 none b9), (SV.slc 5 none b10), (SV.int IntKind.i64 n14)]))), (some (HE.mk false (HB.rows (B.i64 l5)))), (some (HE.mk false (HB.rows (B.i64 l6)))), (some (HE.mk false (HB.rows (B.i64 l7)))), (some (HE.mk false (HB.rows (B.iPortValue l8)))), (some (HE.mk false (HB.rows (B.iPortValue l9)))), (some (HE.mk false (HB.rows (B.u8 l10))))] =
      ga_s_impl_yframeSet_Fimpl_PackMachine_2_Wwwwww_0 N G_impl_PackMachine_2_Wwwwww b5 n7 n9 b6 n10 b7 b8 s1 n11 n12 n13 b9 b10 n14 l5 l6 l7 l8 l9 n8 l10 (fun n8 l10 => AG [(some (AV.sc (SV.fn 40 [(0, (0, 0))]))), (some (AV.sc (SV.slc 6 none b5))), (some (AV.sc (SV.int IntKind.i64 n7))), (some (AV.sc (SV.int IntKind.i64 n8)))] [(some (HE.mk false (HB.exp none [(SV.int IntKind.i64 n9), (SV.slc 1 none b6), (SV.int IntKind.i64 n10), (SV.slc 2 none b7), (SV.slc 3 none b8), (SV.str s1), (SV.int IntKind.i64 n11), (SV.int IntKind.i64 n12), (SV.int IntKind.i64 n13), (SV.slc 4 none b9), (SV.slc 5 none b10), (SV.int IntKind.i64 n14)]))), (some (HE.mk false (HB.rows (B.i64 l5)))), (some (HE.mk false (HB.rows (B.i64 l6)))), (some (HE.mk false (HB.rows (B.i64 l7)))), (some (HE.mk false (HB.rows (B.iPortValue l8)))), (some (HE.mk false (HB.rows (B.iPortValue l9)))), (some (HE.mk false (HB.rows (B.u8 l10))))])  (fun l12 => KL Ex.normal [(some (AV.sc (SV.slc 6 none b5)))] [(some (HE.mk false (HB.exp none [(SV.int IntKind.i64 n9), (SV.slc 1 none b6), (SV.int IntKind.i64 n10), (SV.slc 2 none b7), (SV.slc 3 none b8), (SV.str s1), (SV.int IntKind.i64 n11), (SV.int IntKind.i64 n12), (SV.int IntKind.i64 n13), (SV.slc 4 none b9), (SV.slc 5 none b10), (SV.int IntKind.i64 n14)]))), (some (HE.mk false (HB.rows (B.i64 l5)))), (some (HE.mk false (HB.rows (B.i64 l6)))), (some (HE.mk false (HB.rows (B.i64 l7)))), (some (HE.mk false (HB.rows (B.iPortValue l8)))), (some (HE.mk false (HB.rows (B.iPortValue l9)))), (some (HE.mk false (HB.rows (B.u8 l12))))]) := by kernel_rfl
theorem se_impl_yframeSet_Fimpl_PackMachine_2_Wwwwww_0 (N : Nat) {R : Type} (b5 : Bool) (n7 : Int) (n9 : Int) (b6 : Bool) (n10 : Int) (b7 : Bool) (b8 : Bool) (s1 : ByteArray) (n11 : Int) (n12 : Int) (n13 : Int) (b9 : Bool) (b10 : Bool) (n14 : Int) (l5 : List Int) (l6 : List Int) (l7 : List Int) (l8 : List PortValue) (l9 : List PortValue) (n8 : Int) (l10 : List Int) (AG : List (Option AV) → Hp E → Option R) (KL : Ex → List (Option AV) → Hp E → Option R) :
    iterStep (E := E) (O_impl_yframeSet_Fimpl_PackMachine_2_Wwwwww N) (fun {R} => LI (noIt) 6 31 sl_impl_yframeSet_Fimpl_PackMachine_2_Wwwwww (R := R)) J_impl_yframeSet_Fimpl_PackMachine_2_Wwwwww 6 31 0 [1, 5, 11, 12] [5] (body Try.f39 0) AG KL [(some (AV.sc (SV.fn 40 [(0, (0, 0))]))), (some (AV.sc (SV.slc 6 none b5))), (some (AV.sc (SV.int IntKind.i64 n7))), (some (AV.sc (SV.int IntKind.i64 n8)))] [(some (HE.mk false (HB.exp none [(SV.int IntKind.i64 n9), (SV.slc 1 none b6), (SV.int IntKind.i64 n10), (SV.slc 2 none b7), (SV.slc 3 none b8), (SV.str s1), (SV.int IntKind.i64 n11), (SV.int IntKind.i64 n12), (SV.int IntKind.i64 n13), (SV.slc 4 none b9), (SV.slc 5 none b10), (SV.int IntKind.i64 n14)]))), (some (HE.mk false (HB.rows (B.i64 l5)))), (some (HE.mk false (HB.rows (B.i64 l6)))), (some (HE.mk false (HB.rows (B.i64 l7)))), (some (HE.mk false (HB.rows (B.iPortValue l8)))), (some (HE.mk false (HB.rows (B.iPortValue l9)))), (some (HE.mk false (HB.rows (B.u8 l10))))] =
      s_impl_yframeSet_Fimpl_PackMachine_2_Wwwwww_0 N b5 n7 n9 b6 n10 b7 b8 s1 n11 n12 n13 b9 b10 n14 l5 l6 l7 l8 l9 n8 l10 (fun n8 l10 => AG [(some (AV.sc (SV.fn 40 [(0, (0, 0))]))), (some (AV.sc (SV.slc 6 none b5))), (some (AV.sc (SV.int IntKind.i64 n7))), (some (AV.sc (SV.int IntKind.i64 n8)))] [(some (HE.mk false (HB.exp none [(SV.int IntKind.i64 n9), (SV.slc 1 none b6), (SV.int IntKind.i64 n10), (SV.slc 2 none b7), (SV.slc 3 none b8), (SV.str s1), (SV.int IntKind.i64 n11), (SV.int IntKind.i64 n12), (SV.int IntKind.i64 n13), (SV.slc 4 none b9), (SV.slc 5 none b10), (SV.int IntKind.i64 n14)]))), (some (HE.mk false (HB.rows (B.i64 l5)))), (some (HE.mk false (HB.rows (B.i64 l6)))), (some (HE.mk false (HB.rows (B.i64 l7)))), (some (HE.mk false (HB.rows (B.iPortValue l8)))), (some (HE.mk false (HB.rows (B.iPortValue l9)))), (some (HE.mk false (HB.rows (B.u8 l10))))])  (fun l12 => KL Ex.normal [(some (AV.sc (SV.slc 6 none b5)))] [(some (HE.mk false (HB.exp none [(SV.int IntKind.i64 n9), (SV.slc 1 none b6), (SV.int IntKind.i64 n10), (SV.slc 2 none b7), (SV.slc 3 none b8), (SV.str s1), (SV.int IntKind.i64 n11), (SV.int IntKind.i64 n12), (SV.int IntKind.i64 n13), (SV.slc 4 none b9), (SV.slc 5 none b10), (SV.int IntKind.i64 n14)]))), (some (HE.mk false (HB.rows (B.i64 l5)))), (some (HE.mk false (HB.rows (B.i64 l6)))), (some (HE.mk false (HB.rows (B.i64 l7)))), (some (HE.mk false (HB.rows (B.iPortValue l8)))), (some (HE.mk false (HB.rows (B.iPortValue l9)))), (some (HE.mk false (HB.rows (B.u8 l12))))]) := castPr (by kernel_rfl) (ea_se_impl_yframeSet_Fimpl_PackMachine_2_Wwwwww_0 N (g_impl_PackMachine_2_Wwwwww N) b5 n7 n9 b6 n10 b7 b8 s1 n11 n12 n13 b9 b10 n14 l5 l6 l7 l8 l9 n8 l10 AG KL)
theorem le_impl_yframeSet_Fimpl_PackMachine_2_Wwwwww_0 (N : Nat) {R : Type} (b5 : Bool) (n7 : Int) (n9 : Int) (b6 : Bool) (n10 : Int) (b7 : Bool) (b8 : Bool) (s1 : ByteArray) (n11 : Int) (n12 : Int) (n13 : Int) (b9 : Bool) (b10 : Bool) (n14 : Int) (l5 : List Int) (l6 : List Int) (l7 : List Int) (l8 : List PortValue) (l9 : List PortValue) (KL : Ex → List (Option AV) → Hp E → Option R) : ∀ (f : Nat), ∀ (n8 : Int) (l10 : List Int), iterK (E := E) (O_impl_yframeSet_Fimpl_PackMachine_2_Wwwwww N) (fun {R} => LI (noIt) 6 31 sl_impl_yframeSet_Fimpl_PackMachine_2_Wwwwww (R := R)) J_impl_yframeSet_Fimpl_PackMachine_2_Wwwwww 6 31 0 [1, 5, 11, 12] [5] (body Try.f39 0) f [(some (AV.sc (SV.fn 40 [(0, (0, 0))]))), (some (AV.sc (SV.slc 6 none b5))), (some (AV.sc (SV.int IntKind.i64 n7))), (some (AV.sc (SV.int IntKind.i64 n8)))] [(some (HE.mk false (HB.exp none [(SV.int IntKind.i64 n9), (SV.slc 1 none b6), (SV.int IntKind.i64 n10), (SV.slc 2 none b7), (SV.slc 3 none b8), (SV.str s1), (SV.int IntKind.i64 n11), (SV.int IntKind.i64 n12), (SV.int IntKind.i64 n13), (SV.slc 4 none b9), (SV.slc 5 none b10), (SV.int IntKind.i64 n14)]))), (some (HE.mk false (HB.rows (B.i64 l5)))), (some (HE.mk false (HB.rows (B.i64 l6)))), (some (HE.mk false (HB.rows (B.i64 l7)))), (some (HE.mk false (HB.rows (B.iPortValue l8)))), (some (HE.mk false (HB.rows (B.iPortValue l9)))), (some (HE.mk false (HB.rows (B.u8 l10))))] KL = l_impl_yframeSet_Fimpl_PackMachine_2_Wwwwww_0 N b5 n7 n9 b6 n10 b7 b8 s1 n11 n12 n13 b9 b10 n14 l5 l6 l7 l8 l9 (fun l12 => KL Ex.normal [(some (AV.sc (SV.slc 6 none b5)))] [(some (HE.mk false (HB.exp none [(SV.int IntKind.i64 n9), (SV.slc 1 none b6), (SV.int IntKind.i64 n10), (SV.slc 2 none b7), (SV.slc 3 none b8), (SV.str s1), (SV.int IntKind.i64 n11), (SV.int IntKind.i64 n12), (SV.int IntKind.i64 n13), (SV.slc 4 none b9), (SV.slc 5 none b10), (SV.int IntKind.i64 n14)]))), (some (HE.mk false (HB.rows (B.i64 l5)))), (some (HE.mk false (HB.rows (B.i64 l6)))), (some (HE.mk false (HB.rows (B.i64 l7)))), (some (HE.mk false (HB.rows (B.iPortValue l8)))), (some (HE.mk false (HB.rows (B.iPortValue l9)))), (some (HE.mk false (HB.rows (B.u8 l12))))]) f n8 l10 := by
  intro f
  induction f with
  | zero => intros; rfl
  | succ f ih =>
    intro n8 l10
    rw [iterK_succ, se_impl_yframeSet_Fimpl_PackMachine_2_Wwwwww_0]
    exact (congrArg (fun z0 => s_impl_yframeSet_Fimpl_PackMachine_2_Wwwwww_0 N b5 n7 n9 b6 n10 b7 b8 s1 n11 n12 n13 b9 b10 n14 l5 l6 l7 l8 l9 n8 l10 z0 (fun l12 => KL Ex.normal [(some (AV.sc (SV.slc 6 none b5)))] [(some (HE.mk false (HB.exp none [(SV.int IntKind.i64 n9), (SV.slc 1 none b6), (SV.int IntKind.i64 n10), (SV.slc 2 none b7), (SV.slc 3 none b8), (SV.str s1), (SV.int IntKind.i64 n11), (SV.int IntKind.i64 n12), (SV.int IntKind.i64 n13), (SV.slc 4 none b9), (SV.slc 5 none b10), (SV.int IntKind.i64 n14)]))), (some (HE.mk false (HB.rows (B.i64 l5)))), (some (HE.mk false (HB.rows (B.i64 l6)))), (some (HE.mk false (HB.rows (B.i64 l7)))), (some (HE.mk false (HB.rows (B.iPortValue l8)))), (some (HE.mk false (HB.rows (B.iPortValue l9)))), (some (HE.mk false (HB.rows (B.u8 l12))))])) (funext fun n8 => funext fun l10 => ih n8 l10))
noncomputable def i_impl_yframeSet_Fimpl_PackMachine_2_Wwwwww_0 (N : Nat) {R : Type} (vs : List (Option AV)) (H : Hp E) (KL : Ex → List (Option AV) → Hp E → Option R) : Option R :=
 match vs, H with
 | [(some (AV.sc (SV.fn 40 [(0, (0, 0))]))), (some (AV.sc (SV.slc 6 none b5))), (some (AV.sc (SV.int IntKind.i64 n7))), (some (AV.sc (SV.int IntKind.i64 n8)))], [(some (HE.mk false (HB.exp none [(SV.int IntKind.i64 n9), (SV.slc 1 none b6), (SV.int IntKind.i64 n10), (SV.slc 2 none b7), (SV.slc 3 none b8), (SV.str s1), (SV.int IntKind.i64 n11), (SV.int IntKind.i64 n12), (SV.int IntKind.i64 n13), (SV.slc 4 none b9), (SV.slc 5 none b10), (SV.int IntKind.i64 n14)]))), (some (HE.mk false (HB.rows (B.i64 l5)))), (some (HE.mk false (HB.rows (B.i64 l6)))), (some (HE.mk false (HB.rows (B.i64 l7)))), (some (HE.mk false (HB.rows (B.iPortValue l8)))), (some (HE.mk false (HB.rows (B.iPortValue l9)))), (some (HE.mk false (HB.rows (B.u8 l10))))] => c_impl_yframeSet_Fimpl_PackMachine_2_Wwwwww_0 N b5 n7 n9 b6 n10 b7 b8 s1 n11 n12 n13 b9 b10 n14 l5 l6 l7 l8 l9 n8 l10 (fun l13 => KL Ex.normal [(some (AV.sc (SV.slc 6 none b5)))] [(some (HE.mk false (HB.exp none [(SV.int IntKind.i64 n9), (SV.slc 1 none b6), (SV.int IntKind.i64 n10), (SV.slc 2 none b7), (SV.slc 3 none b8), (SV.str s1), (SV.int IntKind.i64 n11), (SV.int IntKind.i64 n12), (SV.int IntKind.i64 n13), (SV.slc 4 none b9), (SV.slc 5 none b10), (SV.int IntKind.i64 n14)]))), (some (HE.mk false (HB.rows (B.i64 l5)))), (some (HE.mk false (HB.rows (B.i64 l6)))), (some (HE.mk false (HB.rows (B.i64 l7)))), (some (HE.mk false (HB.rows (B.iPortValue l8)))), (some (HE.mk false (HB.rows (B.iPortValue l9)))), (some (HE.mk false (HB.rows (B.u8 l13))))])
 | _, _ => none
noncomputable def IT_impl_yframeSet_Fimpl_PackMachine_2_Wwwwww_0 (N : Nat) : Its E := addIt 0 (i_impl_yframeSet_Fimpl_PackMachine_2_Wwwwww_0 N) (noIt)
theorem IT_impl_yframeSet_Fimpl_PackMachine_2_Wwwwww_0_ok (N : Nat) : ItOk (IT_impl_yframeSet_Fimpl_PackMachine_2_Wwwwww_0 N) 6 31 sl_impl_yframeSet_Fimpl_PackMachine_2_Wwwwww (lsB Try.f39 [0]) :=
  addItB_ok (inner := []) ok (O_impl_yframeSet_Fimpl_PackMachine_2_Wwwwww_ok N) (jn_ok _ _ _) (noIt_ok) rfl (by kernel_rfl) rfl fun vs H KL r h => by
    unfold i_impl_yframeSet_Fimpl_PackMachine_2_Wwwwww_0 at h
    split at h
    · exact ⟨_, (le_impl_yframeSet_Fimpl_PackMachine_2_Wwwwww_0 N _ _ _ _ _ _ _ _ _ _ _ _ _ _ _ _ _ _ _ KL N _ _).trans h⟩
    · cases h
noncomputable def g_impl_yframeSet_Fimpl_PackMachine_2_Wwwwww (N : Nat) {R : Type} (n : Int) (n1 : Int) (b : Bool) (n2 : Int) (b1 : Bool) (b2 : Bool) (s : ByteArray) (n3 : Int) (n4 : Int) (n5 : Int) (b3 : Bool) (b4 : Bool) (n6 : Int) (l : List Int) (l1 : List Int) (l2 : List Int) (l3 : List PortValue) (l4 : List PortValue) (k : ByteArray → Option R) : Option R :=
 (cond (((decide (((IntKind.wrap IntKind.i64 (Int.tdiv (IntKind.wrap IntKind.i64 (n + (7 : Int))) (8 : Int))) = (IntKind.wrap IntKind.i64 (Int.tdiv (IntKind.wrap IntKind.i64 (n + (7 : Int))) (8 : Int)))))) && (decide (((0 : Int) ≤ (IntKind.wrap IntKind.i64 (Int.tdiv (IntKind.wrap IntKind.i64 (n + (7 : Int))) (8 : Int))))))) && (Go.Eng.roomOk (Int.toNat (IntKind.wrap IntKind.i64 (Int.tdiv (IntKind.wrap IntKind.i64 (n + (7 : Int))) (8 : Int)))) 1))
 (c_impl_yframeSet_Fimpl_PackMachine_2_Wwwwww_0 N false n n1 b n2 b1 b2 s n3 n4 n5 b3 b4 n6 l l1 l2 l3 l4 (0 : Int) (List.replicate (Int.toNat (IntKind.wrap IntKind.i64 (Int.tdiv (IntKind.wrap IntKind.i64 (n + (7 : Int))) (8 : Int)))) (0 : Int)) fun l11 =>
 (cond (Nat.ble (0 + (List.length l11)) (List.length l11))
 (k (Go.Eng.toBytes (Go.Eng.seg l11 0 (List.length l11))))
 none))
 none)
noncomputable def ga_g_impl_yframeSet_Fimpl_PackMachine_2_Wwwwww (N : Nat) (G_impl_PackMachine_2_Wwwwww : ∀ {R : Type} (n : Int) (n1 : Int) (b : Bool) (n2 : Int) (b1 : Bool) (b2 : Bool) (s : ByteArray) (n3 : Int) (n4 : Int) (n5 : Int) (b3 : Bool) (b4 : Bool) (n6 : Int) (l : List Int) (l1 : List Int) (l2 : List Int) (l3 : List PortValue) (l4 : List PortValue) (k : Bool → Option R), Option R) {R : Type} (n : Int) (n1 : Int) (b : Bool) (n2 : Int) (b1 : Bool) (b2 : Bool) (s : ByteArray) (n3 : Int) (n4 : Int) (n5 : Int) (b3 : Bool) (b4 : Bool) (n6 : Int) (l : List Int) (l1 : List Int) (l2 : List Int) (l3 : List PortValue) (l4 : List PortValue) (k : ByteArray → Option R) : Option R :=
 (cond (((decide (((IntKind.wrap IntKind.i64 (Int.tdiv (IntKind.wrap IntKind.i64 (n + (7 : Int))) (8 : Int))) = (IntKind.wrap IntKind.i64 (Int.tdiv (IntKind.wrap IntKind.i64 (n + (7 : Int))) (8 : Int)))))) && (decide (((0 : Int) ≤ (IntKind.wrap IntKind.i64 (Int.tdiv (IntKind.wrap IntKind.i64 (n + (7 : Int))) (8 : Int))))))) && (Go.Eng.roomOk (Int.toNat (IntKind.wrap IntKind.i64 (Int.tdiv (IntKind.wrap IntKind.i64 (n + (7 : Int))) (8 : Int)))) 1))
 (c_impl_yframeSet_Fimpl_PackMachine_2_Wwwwww_0 N false n n1 b n2 b1 b2 s n3 n4 n5 b3 b4 n6 l l1 l2 l3 l4 (0 : Int) (List.replicate (Int.toNat (IntKind.wrap IntKind.i64 (Int.tdiv (IntKind.wrap IntKind.i64 (n + (7 : Int))) (8 : Int)))) (0 : Int)) fun l11 =>
 (cond (Nat.ble (0 + (List.length l11)) (List.length l11))
 (k (Go.Eng.toBytes (Go.Eng.seg l11 0 (List.length l11))))
 none))
 none)
theorem ea_e_impl_yframeSet_Fimpl_PackMachine_2_Wwwwww (N : Nat) (G_impl_PackMachine_2_Wwwwww : ∀ {R : Type} (n : Int) (n1 : Int) (b : Bool) (n2 : Int) (b1 : Bool) (b2 : Bool) (s : ByteArray) (n3 : Int) (n4 : Int) (n5 : Int) (b3 : Bool) (b4 : Bool) (n6 : Int) (l : List Int) (l1 : List Int) (l2 : List Int) (l3 : List PortValue) (l4 : List PortValue) (k : Bool → Option R), Option R) {R : Type} (n : Int) (n1 : Int) (b : Bool) (n2 : Int) (b1 : Bool) (b2 : Bool) (s : ByteArray) (n3 : Int) (n4 : Int) (n5 : Int) (b3 : Bool) (b4 : Bool) (n6 : Int) (l : List Int) (l1 : List Int) (l2 : List Int) (l3 : List PortValue) (l4 : List PortValue) (K : AV → Hp E → Option R) :
    runFnI (E := E) (OA_impl_yframeSet_Fimpl_PackMachine_2_Wwwwww N G_impl_PackMachine_2_Wwwwww) (IT_impl_yframeSet_Fimpl_PackMachine_2_Wwwwww_0 N) sl_impl_yframeSet_Fimpl_PackMachine_2_Wwwwww J_impl_yframeSet_Fimpl_PackMachine_2_Wwwwww Try.f39 [(AV.sc (SV.int IntKind.i64 n)), (AV.sc (SV.fn 40 [(0, (0, 0))]))] [(some (HE.mk false (HB.exp none [(SV.int IntKind.i64 n1), (SV.slc 1 none b), (SV.int IntKind.i64 n2), (SV.slc 2 none b1), (SV.slc 3 none b2), (SV.str s), (SV.int IntKind.i64 n3), (SV.int IntKind.i64 n4), (SV.int IntKind.i64 n5), (SV.slc 4 none b3), (SV.slc 5 none b4), (SV.int IntKind.i64 n6)]))), (some (HE.mk false (HB.rows (B.i64 l)))), (some (HE.mk false (HB.rows (B.i64 l1)))), (some (HE.mk false (HB.rows (B.i64 l2)))), (some (HE.mk false (HB.rows (B.iPortValue l3)))), (some (HE.mk false (HB.rows (B.iPortValue l4))))] K =
      ga_g_impl_yframeSet_Fimpl_PackMachine_2_Wwwwww N G_impl_PackMachine_2_Wwwwww n n1 b n2 b1 b2 s n3 n4 n5 b3 b4 n6 l l1 l2 l3 l4 (fun s2 => K (AV.sc (SV.str s2)) [(some (HE.mk false (HB.exp none [(SV.int IntKind.i64 n1), (SV.slc 1 none b), (SV.int IntKind.i64 n2), (SV.slc 2 none b1), (SV.slc 3 none b2), (SV.str s), (SV.int IntKind.i64 n3), (SV.int IntKind.i64 n4), (SV.int IntKind.i64 n5), (SV.slc 4 none b3), (SV.slc 5 none b4), (SV.int IntKind.i64 n6)]))), (some (HE.mk false (HB.rows (B.i64 l)))), (some (HE.mk false (HB.rows (B.i64 l1)))), (some (HE.mk false (HB.rows (B.i64 l2)))), (some (HE.mk false (HB.rows (B.iPortValue l3)))), (some (HE.mk false (HB.rows (B.iPortValue l4))))]) := by kernel_rfl
theorem e_impl_yframeSet_Fimpl_PackMachine_2_Wwwwww (N : Nat) {R : Type} (n : Int) (n1 : Int) (b : Bool) (n2 : Int) (b1 : Bool) (b2 : Bool) (s : ByteArray) (n3 : Int) (n4 : Int) (n5 : Int) (b3 : Bool) (b4 : Bool) (n6 : Int) (l : List Int) (l1 : List Int) (l2 : List Int) (l3 : List PortValue) (l4 : List PortValue) (K : AV → Hp E → Option R) :
    runFnI (E := E) (O_impl_yframeSet_Fimpl_PackMachine_2_Wwwwww N) (IT_impl_yframeSet_Fimpl_PackMachine_2_Wwwwww_0 N) sl_impl_yframeSet_Fimpl_PackMachine_2_Wwwwww J_impl_yframeSet_Fimpl_PackMachine_2_Wwwwww Try.f39 [(AV.sc (SV.int IntKind.i64 n)), (AV.sc (SV.fn 40 [(0, (0, 0))]))] [(some (HE.mk false (HB.exp none [(SV.int IntKind.i64 n1), (SV.slc 1 none b), (SV.int IntKind.i64 n2), (SV.slc 2 none b1), (SV.slc 3 none b2), (SV.str s), (SV.int IntKind.i64 n3), (SV.int IntKind.i64 n4), (SV.int IntKind.i64 n5), (SV.slc 4 none b3), (SV.slc 5 none b4), (SV.int IntKind.i64 n6)]))), (some (HE.mk false (HB.rows (B.i64 l)))), (some (HE.mk false (HB.rows (B.i64 l1)))), (some (HE.mk false (HB.rows (B.i64 l2)))), (some (HE.mk false (HB.rows (B.iPortValue l3)))), (some (HE.mk false (HB.rows (B.iPortValue l4))))] K =
      g_impl_yframeSet_Fimpl_PackMachine_2_Wwwwww N n n1 b n2 b1 b2 s n3 n4 n5 b3 b4 n6 l l1 l2 l3 l4 (fun s2 => K (AV.sc (SV.str s2)) [(some (HE.mk false (HB.exp none [(SV.int IntKind.i64 n1), (SV.slc 1 none b), (SV.int IntKind.i64 n2), (SV.slc 2 none b1), (SV.slc 3 none b2), (SV.str s), (SV.int IntKind.i64 n3), (SV.int IntKind.i64 n4), (SV.int IntKind.i64 n5), (SV.slc 4 none b3), (SV.slc 5 none b4), (SV.int IntKind.i64 n6)]))), (some (HE.mk false (HB.rows (B.i64 l)))), (some (HE.mk false (HB.rows (B.i64 l1)))), (some (HE.mk false (HB.rows (B.i64 l2)))), (some (HE.mk false (HB.rows (B.iPortValue l3)))), (some (HE.mk false (HB.rows (B.iPortValue l4))))]) := castPr (by kernel_rfl) (ea_e_impl_yframeSet_Fimpl_PackMachine_2_Wwwwww N (g_impl_PackMachine_2_Wwwwww N) n n1 b n2 b1 b2 s n3 n4 n5 b3 b4 n6 l l1 l2 l3 l4 K)
noncomputable def o_impl_yframeSet_Fimpl_PackMachine_2_Wwwwww (N : Nat) {R : Type} (args : List AV) (H : Hp E) (K : AV → Hp E → Option R) : Option R :=
 match args, H with
 | [(AV.sc (SV.int IntKind.i64 n)), (AV.sc (SV.fn 40 [(0, (0, 0))]))], [(some (HE.mk false (HB.exp none [(SV.int IntKind.i64 n1), (SV.slc 1 none b), (SV.int IntKind.i64 n2), (SV.slc 2 none b1), (SV.slc 3 none b2), (SV.str s), (SV.int IntKind.i64 n3), (SV.int IntKind.i64 n4), (SV.int IntKind.i64 n5), (SV.slc 4 none b3), (SV.slc 5 none b4), (SV.int IntKind.i64 n6)]))), (some (HE.mk false (HB.rows (B.i64 l)))), (some (HE.mk false (HB.rows (B.i64 l1)))), (some (HE.mk false (HB.rows (B.i64 l2)))), (some (HE.mk false (HB.rows (B.iPortValue l3)))), (some (HE.mk false (HB.rows (B.iPortValue l4))))] => g_impl_yframeSet_Fimpl_PackMachine_2_Wwwwww N n n1 b n2 b1 b2 s n3 n4 n5 b3 b4 n6 l l1 l2 l3 l4 (fun s2 => K (AV.sc (SV.str s2)) [(some (HE.mk false (HB.exp none [(SV.int IntKind.i64 n1), (SV.slc 1 none b), (SV.int IntKind.i64 n2), (SV.slc 2 none b1), (SV.slc 3 none b2), (SV.str s), (SV.int IntKind.i64 n3), (SV.int IntKind.i64 n4), (SV.int IntKind.i64 n5), (SV.slc 4 none b3), (SV.slc 5 none b4), (SV.int IntKind.i64 n6)]))), (some (HE.mk false (HB.rows (B.i64 l)))), (some (HE.mk false (HB.rows (B.i64 l1)))), (some (HE.mk false (HB.rows (B.i64 l2)))), (some (HE.mk false (HB.rows (B.iPortValue l3)))), (some (HE.mk false (HB.rows (B.iPortValue l4))))])
 | _, _ => none
theorem o_impl_yframeSet_Fimpl_PackMachine_2_Wwwwww_ok (N : Nat) : FnOk E 39 (o_impl_yframeSet_Fimpl_PackMachine_2_Wwwwww N) := by
  intro R args H K r h
  unfold o_impl_yframeSet_Fimpl_PackMachine_2_Wwwwww at h
  dsimp only at h
  split at h
  · exact fnB_ok (ids := [0]) (top := [0]) ok (O_impl_yframeSet_Fimpl_PackMachine_2_Wwwwww_ok N) (jn_ok _ _ _) Try.func39 (by kernel_rfl) (IT := IT_impl_yframeSet_Fimpl_PackMachine_2_Wwwwww_0 N) (sl := sl_impl_yframeSet_Fimpl_PackMachine_2_Wwwwww) (J := J_impl_yframeSet_Fimpl_PackMachine_2_Wwwwww) (K := K) (H := [(some (HE.mk false (HB.exp none [(SV.int IntKind.i64 _), (SV.slc 1 none _), (SV.int IntKind.i64 _), (SV.slc 2 none _), (SV.slc 3 none _), (SV.str _), (SV.int IntKind.i64 _), (SV.int IntKind.i64 _), (SV.int IntKind.i64 _), (SV.slc 4 none _), (SV.slc 5 none _), (SV.int IntKind.i64 _)]))), (some (HE.mk false (HB.rows (B.i64 _)))), (some (HE.mk false (HB.rows (B.i64 _)))), (some (HE.mk false (HB.rows (B.i64 _)))), (some (HE.mk false (HB.rows (B.iPortValue _)))), (some (HE.mk false (HB.rows (B.iPortValue _))))]) (IT_impl_yframeSet_Fimpl_PackMachine_2_Wwwwww_0_ok N) (by kernel_rfl) rfl ((e_impl_yframeSet_Fimpl_PackMachine_2_Wwwwww N _ _ _ _ _ _ _ _ _ _ _ _ _ _ _ _ _ _ K).trans h)
  · cases h
/-! ### loop.example/g00038/impl.yhasBit -/
abbrev sl_impl_yhasBit : SlotT := []
abbrev J_impl_yhasBit : JT := jn [(1, [(4, .b)])] [] []
noncomputable def O_impl_yhasBit (N : Nat) : Orc E := noFn
theorem O_impl_yhasBit_ok (N : Nat) : OrcOk (O_impl_yhasBit N) := noFn_ok
noncomputable def g_impl_yhasBit (N : Nat) {R : Type} (s : ByteArray) (n : Int) (k : Bool → Option R) : Option R :=
 (oK (cond (decide ((n ≥ (0 : Int))))
 (cond (decide (((IntKind.wrap IntKind.i64 (Int.tdiv n (8 : Int))) < (((ByteArray.size s) : Nat) : Int))))
 (cond ((decide (((0 : Int) ≤ (IntKind.wrap IntKind.i64 (Int.tdiv n (8 : Int)))))) && (decide (((IntKind.wrap IntKind.i64 (Int.tdiv n (8 : Int))) < (((ByteArray.size s) : Nat) : Int)))))
 (cond (decide (((Int.tmod n (8 : Int)) < (0 : Int))))
 none
 (some ((IntKind.wrap IntKind.u8 (((BitVec.toNat ((BitVec.ofInt 8 (Int.fdiv (Go.Eng.bt s (Int.toNat (IntKind.wrap IntKind.i64 (Int.tdiv n (8 : Int))))) ((2 : Int) ^ (Min.min (Int.toNat (Int.tmod n (8 : Int))) 8)))) &&& (BitVec.ofInt 8 (1 : Int)))) : Nat) : Int)) == (1 : Int))))
 none)
 (some false))
 (some false)) fun j =>
 (k j))
theorem e_impl_yhasBit (N : Nat) {R : Type} (s : ByteArray) (n : Int) (K : AV → Hp E → Option R) :
    runFnI (E := E) (O_impl_yhasBit N) (noIt) sl_impl_yhasBit J_impl_yhasBit Try.f42 [(AV.sc (SV.str s)), (AV.sc (SV.int IntKind.i64 n))] [] K =
      g_impl_yhasBit N s n (fun b => K (AV.sc (SV.bool b)) []) := by kernel_rfl
noncomputable def o_impl_yhasBit (N : Nat) {R : Type} (args : List AV) (H : Hp E) (K : AV → Hp E → Option R) : Option R :=
 match args, H with
 | [(AV.sc (SV.str s)), (AV.sc (SV.int IntKind.i64 n))], [] => g_impl_yhasBit N s n (fun b => K (AV.sc (SV.bool b)) [])
 | _, _ => none
theorem o_impl_yhasBit_ok (N : Nat) : FnOk E 42 (o_impl_yhasBit N) := by
  intro R args H K r h
  unfold o_impl_yhasBit at h
  dsimp only at h
  split at h
  · exact fnB_ok (ids := []) (top := []) ok (O_impl_yhasBit_ok N) (jn_ok _ _ _) Try.func42 (by kernel_rfl) (IT := noIt) (sl := sl_impl_yhasBit) (J := J_impl_yhasBit) (K := K) (H := []) (noIt_ok) (by kernel_rfl) rfl ((e_impl_yhasBit N _ _ K).trans h)
  · cases h
/-! ### loop.example/g00038/impl.ymod -/
abbrev sl_impl_ymod : SlotT := []
abbrev J_impl_ymod : JT := jn [] [(9, [(0, .i .i64)])] []
noncomputable def O_impl_ymod (N : Nat) : Orc E := noFn
theorem O_impl_ymod_ok (N : Nat) : OrcOk (O_impl_ymod N) := noFn_ok
noncomputable def g_impl_ymod (N : Nat) {R : Type} (n : Int) (n1 : Int) (k : Int → Option R) : Option R :=
 (cond (n1 == (0 : Int))
 none
 (oK (cond (decide (((Int.tmod n n1) < (0 : Int))))
 (some (IntKind.wrap IntKind.i64 ((Int.tmod n n1) + n1)))
 (some (Int.tmod n n1))) fun j =>
 (k j)))
theorem e_impl_ymod (N : Nat) {R : Type} (n : Int) (n1 : Int) (K : AV → Hp E → Option R) :
    runFnI (E := E) (O_impl_ymod N) (noIt) sl_impl_ymod J_impl_ymod Try.f81 [(AV.sc (SV.int IntKind.i64 n)), (AV.sc (SV.int IntKind.i64 n1))] [] K =
      g_impl_ymod N n n1 (fun n2 => K (AV.sc (SV.int IntKind.i64 n2)) []) := by kernel_rfl
noncomputable def o_impl_ymod (N : Nat) {R : Type} (args : List AV) (H : Hp E) (K : AV → Hp E → Option R) : Option R :=
 match args, H with
 | [(AV.sc (SV.int IntKind.i64 n)), (AV.sc (SV.int IntKind.i64 n1))], [] => g_impl_ymod N n n1 (fun n2 => K (AV.sc (SV.int IntKind.i64 n2)) [])
 | _, _ => none
theorem o_impl_ymod_ok (N : Nat) : FnOk E 81 (o_impl_ymod N) := by
  intro R args H K r h
  unfold o_impl_ymod at h
  dsimp only at h
  split at h
  · exact fnB_ok (ids := []) (top := []) ok (O_impl_ymod_ok N) (jn_ok _ _ _) Try.func81 (by kernel_rfl) (IT := noIt) (sl := sl_impl_ymod) (J := J_impl_ymod) (K := K) (H := []) (noIt_ok) (by kernel_rfl) rfl ((e_impl_ymod N _ _ K).trans h)
  · cases h
/-! ### loop.example/g00038/impl.ymix -/
abbrev sl_impl_ymix : SlotT := [(0, ([0, 5, 11, 12], [5]))]
abbrev J_impl_ymix : JT := jn [] [] []
noncomputable def O_impl_ymix (N : Nat) : Orc E := addFn 81 (o_impl_ymod N) (noFn)
theorem O_impl_ymix_ok (N : Nat) : OrcOk (O_impl_ymix N) := addFn_ok (o_impl_ymod_ok N) (noFn_ok)
noncomputable def s_impl_ymix_0 (N : Nat) {R : Type} (s1 : ByteArray) (n3 : Int) (n2 : Int) (n4 : Int) (ag : Int → Int → Option R)  (kN : Int → Option R) : Option R :=
 (cond (decide ((n4 < n3)))
 (cond ((decide (((0 : Int) ≤ n4))) && (decide ((n4 < (((ByteArray.size s1) : Nat) : Int)))))
 (ag (Int.tmod (IntKind.wrap IntKind.i64 ((IntKind.wrap IntKind.i64 ((IntKind.wrap IntKind.i64 (n2 * (65599 : Int))) + (IntKind.wrap IntKind.i64 (Go.Eng.bt s1 (Int.toNat n4))))) + (1 : Int))) (2147483629 : Int)) (IntKind.wrap IntKind.i64 (n4 + (1 : Int))))
 none)
 (kN n2))
noncomputable def l_impl_ymix_0 (N : Nat) {R : Type} (s1 : ByteArray) (n3 : Int) (kN : Int → Option R) : Nat → Int → Int → Option R
 | 0, _, _ => none
 | f + 1, n2, n4 => s_impl_ymix_0 N s1 n3 n2 n4 (fun n2 n4 => l_impl_ymix_0 N s1 n3 kN f n2 n4)  kN
noncomputable def c_impl_ymix_0 (N : Nat) {R : Type} (s1 : ByteArray) (n3 : Int) (n2 : Int) (n4 : Int) (kN : Int → Option R) : Option R := l_impl_ymix_0 N s1 n3 kN N n2 n4
theorem se_impl_ymix_0 (N : Nat) {R : Type} (s1 : ByteArray) (n3 : Int) (n2 : Int) (n4 : Int) (AG : List (Option AV) → Hp E → Option R) (KL : Ex → List (Option AV) → Hp E → Option R) :
    iterStep (E := E) (O_impl_ymix N) (fun {R} => LI (noIt) 0 29 sl_impl_ymix (R := R)) J_impl_ymix 0 29 0 [0, 5, 11, 12] [5] (body Try.f44 0) AG KL [(some (AV.sc (SV.str s1))), (some (AV.sc (SV.int IntKind.i64 n2))), (some (AV.sc (SV.int IntKind.i64 n3))), (some (AV.sc (SV.int IntKind.i64 n4)))] [] =
      s_impl_ymix_0 N s1 n3 n2 n4 (fun n2 n4 => AG [(some (AV.sc (SV.str s1))), (some (AV.sc (SV.int IntKind.i64 n2))), (some (AV.sc (SV.int IntKind.i64 n3))), (some (AV.sc (SV.int IntKind.i64 n4)))] [])  (fun n7 => KL Ex.normal [(some (AV.sc (SV.int IntKind.i64 n7)))] []) := by kernel_rfl
theorem le_impl_ymix_0 (N : Nat) {R : Type} (s1 : ByteArray) (n3 : Int) (KL : Ex → List (Option AV) → Hp E → Option R) : ∀ (f : Nat), ∀ (n2 : Int) (n4 : Int), iterK (E := E) (O_impl_ymix N) (fun {R} => LI (noIt) 0 29 sl_impl_ymix (R := R)) J_impl_ymix 0 29 0 [0, 5, 11, 12] [5] (body Try.f44 0) f [(some (AV.sc (SV.str s1))), (some (AV.sc (SV.int IntKind.i64 n2))), (some (AV.sc (SV.int IntKind.i64 n3))), (some (AV.sc (SV.int IntKind.i64 n4)))] [] KL = l_impl_ymix_0 N s1 n3 (fun n7 => KL Ex.normal [(some (AV.sc (SV.int IntKind.i64 n7)))] []) f n2 n4 := by
  intro f
  induction f with
  | zero => intros; rfl
  | succ f ih =>
    intro n2 n4
    rw [iterK_succ, se_impl_ymix_0]
    exact (congrArg (fun z0 => s_impl_ymix_0 N s1 n3 n2 n4 z0 (fun n7 => KL Ex.normal [(some (AV.sc (SV.int IntKind.i64 n7)))] [])) (funext fun n2 => funext fun n4 => ih n2 n4))
noncomputable def i_impl_ymix_0 (N : Nat) {R : Type} (vs : List (Option AV)) (H : Hp E) (KL : Ex → List (Option AV) → Hp E → Option R) : Option R :=
 match vs, H with
 | [(some (AV.sc (SV.str s1))), (some (AV.sc (SV.int IntKind.i64 n2))), (some (AV.sc (SV.int IntKind.i64 n3))), (some (AV.sc (SV.int IntKind.i64 n4)))], [] => c_impl_ymix_0 N s1 n3 n2 n4 (fun n8 => KL Ex.normal [(some (AV.sc (SV.int IntKind.i64 n8)))] [])
 | _, _ => none
noncomputable def IT_impl_ymix_0 (N : Nat) : Its E := addIt 0 (i_impl_ymix_0 N) (noIt)
theorem IT_impl_ymix_0_ok (N : Nat) : ItOk (IT_impl_ymix_0 N) 0 29 sl_impl_ymix (lsB Try.f44 [0]) :=
  addItB_ok (inner := []) ok (O_impl_ymix_ok N) (jn_ok _ _ _) (noIt_ok) rfl (by kernel_rfl) rfl fun vs H KL r h => by
    unfold i_impl_ymix_0 at h
    split at h
    · exact ⟨_, (le_impl_ymix_0 N _ _ KL N _ _).trans h⟩
    · cases h
noncomputable def g_impl_ymix (N : Nat) {R : Type} (s : ByteArray) (n : Int) (k : Int → Option R) : Option R :=
 (g_impl_ymod N n (2147483629 : Int) fun n1 =>
 (c_impl_ymix_0 N s (((ByteArray.size s) : Nat) : Int) (IntKind.wrap IntKind.i64 (n1 + (1 : Int))) (0 : Int) fun n5 =>
 (k (Int.tmod (IntKind.wrap IntKind.i64 ((IntKind.wrap IntKind.i64 (n5 * (40503 : Int))) + (77 : Int))) (2147483629 : Int)))))
theorem e_impl_ymix (N : Nat) {R : Type} (s : ByteArray) (n : Int) (K : AV → Hp E → Option R) :
    runFnI (E := E) (O_impl_ymix N) (IT_impl_ymix_0 N) sl_impl_ymix J_impl_ymix Try.f44 [(AV.sc (SV.str s)), (AV.sc (SV.int IntKind.i64 n))] [] K =
      g_impl_ymix N s n (fun n6 => K (AV.sc (SV.int IntKind.i64 n6)) []) := by kernel_rfl
noncomputable def o_impl_ymix (N : Nat) {R : Type} (args : List AV) (H : Hp E) (K : AV → Hp E → Option R) : Option R :=
 match args, H with
 | [(AV.sc (SV.str s)), (AV.sc (SV.int IntKind.i64 n))], [] => g_impl_ymix N s n (fun n6 => K (AV.sc (SV.int IntKind.i64 n6)) [])
 | _, _ => none
theorem o_impl_ymix_ok (N : Nat) : FnOk E 44 (o_impl_ymix N) := by
  intro R args H K r h
  unfold o_impl_ymix at h
  dsimp only at h
  split at h
  · exact fnB_ok (ids := [0]) (top := [0]) ok (O_impl_ymix_ok N) (jn_ok _ _ _) Try.func44 (by kernel_rfl) (IT := IT_impl_ymix_0 N) (sl := sl_impl_ymix) (J := J_impl_ymix) (K := K) (H := []) (IT_impl_ymix_0_ok N) (by kernel_rfl) rfl ((e_impl_ymix N _ _ K).trans h)
  · cases h
end Go.Sa
