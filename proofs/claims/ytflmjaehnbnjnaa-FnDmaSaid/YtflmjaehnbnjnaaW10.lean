import Derived.Test.YtflmjaehnbnjnaaSpec
import Derived.Test.YtflmjaehnbnjnaaPLb
import Derived.Test.YtflmjaehnbnjnaaW9
set_option linter.all false
namespace Go.Sa
open Go Go.Eng Go.Proofs
set_option maxRecDepth 100000
set_option maxHeartbeats 4000000
/-! ### loop.example/g00038/laws.FnDma -/
abbrev sl_laws_FnDma_r : SlotT := [(0, ([3, 4, 5, 6, 8, 9, 10, 11, 12, 13], [3, 4, 5, 6, 8, 9, 10, 11, 12])), (2, ([3, 4, 5, 6, 8, 9, 10, 11, 12, 15], [3, 4, 5, 6, 8, 9, 10, 11, 12])), (4, ([3, 4, 5, 6, 8, 9, 12, 16], [2, 4, 5, 6, 8, 12]))]
abbrev J_laws_FnDma_r : JT := jn [(6, [(62, .b)]), (7, [(2, .b)]), (15, [(99, .b)]), (17, [(12, .b)]), (23, [(12, .b)]), (28, [(166, .b)]), (32, [(2, .b)])] [] []
noncomputable def O_laws_FnDma_r (N : Nat) : Orc E := addFn 24 (o_spec_DmaRead N) (addFn 23 (o_impl_DmaRead N) (addFn 22 (o_laws_lwFrame N) (addFn 21 (o_laws_lwHas_r N) (addFn 9 (o_spec_Walk N) (addFn 20 (o_impl_DmaWrite N) (addFn 19 (o_spec_DmaWrite N) (addFn 18 (o_spec_DrawDmaWrite_r N) (noFn))))))))
noncomputable def pa_laws_FnDma_r__o_spec_DmaRead (N : Nat) (G_spec_DmaRead : ∀ {R : Type} (s : ByteArray) (n : Int) (n1 : Int) (n2 : Int) (k : Int → Int → ByteArray → ByteArray → Option R), Option R) {R : Type} (args : List AV) (H : Hp E) (K : AV → Hp E → Option R) : Option R :=
 match args, H with
 | [(AV.sc (SV.str s)), (AV.sc (SV.int IntKind.i64 n)), (AV.sc (SV.int IntKind.i64 n1)), (AV.sc (SV.int IntKind.i64 n2))], [] => G_spec_DmaRead s n n1 n2 (fun n10 n11 s7 s8 => K (AV.agg [(SV.int IntKind.i64 n10), (SV.int IntKind.i64 n11), (SV.str s7), (SV.str s8)]) [])
 | _, _ => none
noncomputable def pa_laws_FnDma_r__o_impl_DmaRead (N : Nat) (G_impl_DmaRead : ∀ {R : Type} (s : ByteArray) (n : Int) (n1 : Int) (n2 : Int) (k : Int → Int → ByteArray → ByteArray → Option R), Option R) {R : Type} (args : List AV) (H : Hp E) (K : AV → Hp E → Option R) : Option R :=
 match args, H with
 | [(AV.sc (SV.str s)), (AV.sc (SV.int IntKind.i64 n)), (AV.sc (SV.int IntKind.i64 n1)), (AV.sc (SV.int IntKind.i64 n2))], [] => G_impl_DmaRead s n n1 n2 (fun n11 n12 s6 s7 => K (AV.agg [(SV.int IntKind.i64 n11), (SV.int IntKind.i64 n12), (SV.str s6), (SV.str s7)]) [])
 | _, _ => none
noncomputable def pa_laws_FnDma_r__o_laws_lwFrame (N : Nat) (G_laws_lwFrame : ∀ {R : Type} (s : ByteArray) (n : Int) (k : ByteArray → Option R), Option R) {R : Type} (args : List AV) (H : Hp E) (K : AV → Hp E → Option R) : Option R :=
 match args, H with
 | [(AV.sc (SV.str s)), (AV.sc (SV.int IntKind.i64 n))], [] => G_laws_lwFrame s n (fun s1 => K (AV.sc (SV.str s1)) [])
 | _, _ => none
noncomputable def pa_laws_FnDma_r__o_laws_lwHas_r (N : Nat) (G_laws_lwHas_r : ∀ {R : Type} (b : Bool) (n : Int) (l : List Int) (k : Bool → Option R), Option R) {R : Type} (args : List AV) (H : Hp E) (K : AV → Hp E → Option R) : Option R :=
 match args, H with
 | [(AV.sc (SV.slc 0 none b)), (AV.sc (SV.int IntKind.i64 n))], [(some (HE.mk true (HB.rows (B.i64 l))))] => G_laws_lwHas_r b n l (fun b2 => K (AV.sc (SV.bool b2)) [(some (HE.mk true (HB.rows (B.i64 l))))])
 | _, _ => none
noncomputable def pa_laws_FnDma_r__o_spec_Walk (N : Nat) (G_spec_Walk : ∀ {R : Type} (s : ByteArray) (n : Int) (n1 : Int) (n2 : Int) (b : Bool) (k : Int → Int → Int → Bool → Bool → ByteArray → (List Int) → Option R), Option R) {R : Type} (args : List AV) (H : Hp E) (K : AV → Hp E → Option R) : Option R :=
 match args, H with
 | [(AV.sc (SV.str s)), (AV.sc (SV.int IntKind.i64 n)), (AV.sc (SV.int IntKind.i64 n1)), (AV.sc (SV.int IntKind.i64 n2)), (AV.sc (SV.bool b))], [] => G_spec_Walk s n n1 n2 b (fun n6 n7 n8 b6 b7 s3 l => K (AV.agg [(SV.int IntKind.i64 n6), (SV.int IntKind.i64 n7), (SV.int IntKind.i64 n8), (SV.bool b6), (SV.slc 0 none b7), (SV.str s3)]) [(some (HE.mk false (HB.rows (B.i64 l))))])
 | _, _ => none
noncomputable def pa_laws_FnDma_r__o_impl_DmaWrite (N : Nat) (G_impl_DmaWrite : ∀ {R : Type} (s : ByteArray) (n : Int) (n1 : Int) (s1 : ByteArray) (k : Int → Int → ByteArray → Option R), Option R) {R : Type} (args : List AV) (H : Hp E) (K : AV → Hp E → Option R) : Option R :=
 match args, H with
 | [(AV.sc (SV.str s)), (AV.sc (SV.int IntKind.i64 n)), (AV.sc (SV.int IntKind.i64 n1)), (AV.sc (SV.str s1))], [] => G_impl_DmaWrite s n n1 s1 (fun n10 n11 s7 => K (AV.agg [(SV.int IntKind.i64 n10), (SV.int IntKind.i64 n11), (SV.str (ByteArray.mk (List.toArray []))), (SV.str s7)]) [])
 | _, _ => none
noncomputable def pa_laws_FnDma_r__o_spec_DmaWrite (N : Nat) (G_spec_DmaWrite : ∀ {R : Type} (s : ByteArray) (n : Int) (n1 : Int) (s1 : ByteArray) (k : Int → Int → ByteArray → Option R), Option R) {R : Type} (args : List AV) (H : Hp E) (K : AV → Hp E → Option R) : Option R :=
 match args, H with
 | [(AV.sc (SV.str s)), (AV.sc (SV.int IntKind.i64 n)), (AV.sc (SV.int IntKind.i64 n1)), (AV.sc (SV.str s1))], [] => G_spec_DmaWrite s n n1 s1 (fun n9 n10 s9 => K (AV.agg [(SV.int IntKind.i64 n9), (SV.int IntKind.i64 n10), (SV.str (ByteArray.mk (List.toArray []))), (SV.str s9)]) [])
 | _, _ => none
noncomputable def pa_laws_FnDma_r__o_spec_DrawDmaWrite_r (N : Nat) (G_spec_DrawDmaWrite_r : ∀ {R : Type} (b : Bool) (l : List Int) (k : ByteArray → Int → Int → ByteArray → Option R), Option R) {R : Type} (args : List AV) (H : Hp E) (K : AV → Hp E → Option R) : Option R :=
 match args, H with
 | [(AV.sc (SV.slc 0 none b))], [(some (HE.mk true (HB.rows (B.u8 l))))] => G_spec_DrawDmaWrite_r b l (fun s2 n12 n13 s3 => K (AV.tup [(false, [(SV.str s2)]), (false, [(SV.int IntKind.i64 n12)]), (false, [(SV.int IntKind.i64 n13)]), (false, [(SV.str s3)])]) [(some (HE.mk true (HB.rows (B.u8 l))))])
 | _, _ => none
noncomputable def OA_laws_FnDma_r (N : Nat) (G_spec_DmaRead : ∀ {R : Type} (s : ByteArray) (n : Int) (n1 : Int) (n2 : Int) (k : Int → Int → ByteArray → ByteArray → Option R), Option R) (G_impl_DmaRead : ∀ {R : Type} (s : ByteArray) (n : Int) (n1 : Int) (n2 : Int) (k : Int → Int → ByteArray → ByteArray → Option R), Option R) (G_laws_lwFrame : ∀ {R : Type} (s : ByteArray) (n : Int) (k : ByteArray → Option R), Option R) (G_laws_lwHas_r : ∀ {R : Type} (b : Bool) (n : Int) (l : List Int) (k : Bool → Option R), Option R) (G_spec_Walk : ∀ {R : Type} (s : ByteArray) (n : Int) (n1 : Int) (n2 : Int) (b : Bool) (k : Int → Int → Int → Bool → Bool → ByteArray → (List Int) → Option R), Option R) (G_impl_DmaWrite : ∀ {R : Type} (s : ByteArray) (n : Int) (n1 : Int) (s1 : ByteArray) (k : Int → Int → ByteArray → Option R), Option R) (G_spec_DmaWrite : ∀ {R : Type} (s : ByteArray) (n : Int) (n1 : Int) (s1 : ByteArray) (k : Int → Int → ByteArray → Option R), Option R) (G_spec_DrawDmaWrite_r : ∀ {R : Type} (b : Bool) (l : List Int) (k : ByteArray → Int → Int → ByteArray → Option R), Option R) : Orc E := addFn 24 (pa_laws_FnDma_r__o_spec_DmaRead N G_spec_DmaRead) (addFn 23 (pa_laws_FnDma_r__o_impl_DmaRead N G_impl_DmaRead) (addFn 22 (pa_laws_FnDma_r__o_laws_lwFrame N G_laws_lwFrame) (addFn 21 (pa_laws_FnDma_r__o_laws_lwHas_r N G_laws_lwHas_r) (addFn 9 (pa_laws_FnDma_r__o_spec_Walk N G_spec_Walk) (addFn 20 (pa_laws_FnDma_r__o_impl_DmaWrite N G_impl_DmaWrite) (addFn 19 (pa_laws_FnDma_r__o_spec_DmaWrite N G_spec_DmaWrite) (addFn 18 (pa_laws_FnDma_r__o_spec_DrawDmaWrite_r N G_spec_DrawDmaWrite_r) (noFn))))))))
theorem O_laws_FnDma_r_ok (N : Nat) : OrcOk (O_laws_FnDma_r N) := addFn_ok (o_spec_DmaRead_ok N) (addFn_ok (o_impl_DmaRead_ok N) (addFn_ok (o_laws_lwFrame_ok N) (addFn_ok (o_laws_lwHas_r_ok N) (addFn_ok (o_spec_Walk_ok N) (addFn_ok (o_impl_DmaWrite_ok N) (addFn_ok (o_spec_DmaWrite_ok N) (addFn_ok (o_spec_DrawDmaWrite_r_ok N) (noFn_ok))))))))
noncomputable def s_laws_FnDma_r_0 (N : Nat) {R : Type} (s4 : ByteArray) (n6 : Int) (n7 : Int) (s5 : ByteArray) (b1 : Bool) (l1 : List Int) (n9 : Int) (n10 : Int) (s6 : ByteArray) (s7 : ByteArray) (l2 : List Int) (b2 : Bool) (b3 : Bool) (b4 : Bool) (n8 : Int) (l3 : List Int) (l4 : List Int) (ag : Bool → Bool → Bool → Int → (List Int) → (List Int) → Option R)  (kN : Bool → Bool → Bool → (List Int) → (List Int) → Option R) : Option R :=
 (cond (decide ((n8 < (((ByteArray.size s5) : Nat) : Int))))
 (oK (cond (decide ((n8 > (0 : Int))))
 (some ((Int.tmod (IntKind.wrap IntKind.i64 (n7 + n8)) (256 : Int)) != (0 : Int)))
 (some false)) fun j2 =>
 (cond j2
 (ag b2 b3 b4 (IntKind.wrap IntKind.i64 (n8 + (1 : Int))) l3 l4)
 (g_spec_Walk N s4 n6 (IntKind.wrap IntKind.i64 (n7 + n8)) (2 : Int) true fun n11 n12 n13 b5 b6 s8 l5 =>
 (oK (cond b4
 (g_laws_lwHas_r N b3 (IntKind.wrap IntKind.i64 (Int.tdiv n12 (256 : Int))) l4 fun b7 =>
 (some (!b7)))
 (some false)) fun j3 =>
 (cond (Go.Eng.roomOk ((List.length l3) + (List.length l5)) 8)
 (cond (Go.Eng.roomOk ((List.length l4) + (List.length [(IntKind.wrap IntKind.i64 (Int.tdiv n12 (256 : Int)))])) 8)
 (ag (cond (Nat.beq (List.length l5) 0) b2 false) (cond (Nat.beq (List.length [(IntKind.wrap IntKind.i64 (Int.tdiv n12 (256 : Int)))]) 0) b3 false) j3 (IntKind.wrap IntKind.i64 (n8 + (1 : Int))) (l3 ++ l5) (l4 ++ [(IntKind.wrap IntKind.i64 (Int.tdiv n12 (256 : Int)))]))
 none)
 none)))))
 (kN b2 b3 b4 l3 l4))
noncomputable def ga_s_laws_FnDma_r_0 (N : Nat) (G_spec_DmaRead : ∀ {R : Type} (s : ByteArray) (n : Int) (n1 : Int) (n2 : Int) (k : Int → Int → ByteArray → ByteArray → Option R), Option R) (G_impl_DmaRead : ∀ {R : Type} (s : ByteArray) (n : Int) (n1 : Int) (n2 : Int) (k : Int → Int → ByteArray → ByteArray → Option R), Option R) (G_laws_lwFrame : ∀ {R : Type} (s : ByteArray) (n : Int) (k : ByteArray → Option R), Option R) (G_laws_lwHas_r : ∀ {R : Type} (b : Bool) (n : Int) (l : List Int) (k : Bool → Option R), Option R) (G_spec_Walk : ∀ {R : Type} (s : ByteArray) (n : Int) (n1 : Int) (n2 : Int) (b : Bool) (k : Int → Int → Int → Bool → Bool → ByteArray → (List Int) → Option R), Option R) (G_impl_DmaWrite : ∀ {R : Type} (s : ByteArray) (n : Int) (n1 : Int) (s1 : ByteArray) (k : Int → Int → ByteArray → Option R), Option R) (G_spec_DmaWrite : ∀ {R : Type} (s : ByteArray) (n : Int) (n1 : Int) (s1 : ByteArray) (k : Int → Int → ByteArray → Option R), Option R) (G_spec_DrawDmaWrite_r : ∀ {R : Type} (b : Bool) (l : List Int) (k : ByteArray → Int → Int → ByteArray → Option R), Option R) {R : Type} (s4 : ByteArray) (n6 : Int) (n7 : Int) (s5 : ByteArray) (b1 : Bool) (l1 : List Int) (n9 : Int) (n10 : Int) (s6 : ByteArray) (s7 : ByteArray) (l2 : List Int) (b2 : Bool) (b3 : Bool) (b4 : Bool) (n8 : Int) (l3 : List Int) (l4 : List Int) (ag : Bool → Bool → Bool → Int → (List Int) → (List Int) → Option R)  (kN : Bool → Bool → Bool → (List Int) → (List Int) → Option R) : Option R :=
 (cond (decide ((n8 < (((ByteArray.size s5) : Nat) : Int))))
 (oK (cond (decide ((n8 > (0 : Int))))
 (some ((Int.tmod (IntKind.wrap IntKind.i64 (n7 + n8)) (256 : Int)) != (0 : Int)))
 (some false)) fun j2 =>
 (cond j2
 (ag b2 b3 b4 (IntKind.wrap IntKind.i64 (n8 + (1 : Int))) l3 l4)
 (G_spec_Walk s4 n6 (IntKind.wrap IntKind.i64 (n7 + n8)) (2 : Int) true fun n11 n12 n13 b5 b6 s8 l5 =>
 (oK (cond b4
 (G_laws_lwHas_r b3 (IntKind.wrap IntKind.i64 (Int.tdiv n12 (256 : Int))) l4 fun b7 =>
 (some (!b7)))
 (some false)) fun j3 =>
 (cond (Go.Eng.roomOk ((List.length l3) + (List.length l5)) 8)
 (cond (Go.Eng.roomOk ((List.length l4) + (List.length [(IntKind.wrap IntKind.i64 (Int.tdiv n12 (256 : Int)))])) 8)
 (ag (cond (Nat.beq (List.length l5) 0) b2 false) (cond (Nat.beq (List.length [(IntKind.wrap IntKind.i64 (Int.tdiv n12 (256 : Int)))]) 0) b3 false) j3 (IntKind.wrap IntKind.i64 (n8 + (1 : Int))) (l3 ++ l5) (l4 ++ [(IntKind.wrap IntKind.i64 (Int.tdiv n12 (256 : Int)))]))
 none)
 none)))))
 (kN b2 b3 b4 l3 l4))
noncomputable def l_laws_FnDma_r_0 (N : Nat) {R : Type} (s4 : ByteArray) (n6 : Int) (n7 : Int) (s5 : ByteArray) (b1 : Bool) (l1 : List Int) (n9 : Int) (n10 : Int) (s6 : ByteArray) (s7 : ByteArray) (l2 : List Int) (kN : Bool → Bool → Bool → (List Int) → (List Int) → Option R) : Nat → Bool → Bool → Bool → Int → (List Int) → (List Int) → Option R
 | 0, _, _, _, _, _, _ => none
 | f + 1, b2, b3, b4, n8, l3, l4 => s_laws_FnDma_r_0 N s4 n6 n7 s5 b1 l1 n9 n10 s6 s7 l2 b2 b3 b4 n8 l3 l4 (fun b2 b3 b4 n8 l3 l4 => l_laws_FnDma_r_0 N s4 n6 n7 s5 b1 l1 n9 n10 s6 s7 l2 kN f b2 b3 b4 n8 l3 l4)  kN
noncomputable def c_laws_FnDma_r_0 (N : Nat) {R : Type} (s4 : ByteArray) (n6 : Int) (n7 : Int) (s5 : ByteArray) (b1 : Bool) (l1 : List Int) (n9 : Int) (n10 : Int) (s6 : ByteArray) (s7 : ByteArray) (l2 : List Int) (b2 : Bool) (b3 : Bool) (b4 : Bool) (n8 : Int) (l3 : List Int) (l4 : List Int) (kN : Bool → Bool → Bool → (List Int) → (List Int) → Option R) : Option R := l_laws_FnDma_r_0 N s4 n6 n7 s5 b1 l1 n9 n10 s6 s7 l2 kN N b2 b3 b4 n8 l3 l4
theorem ea_se_laws_FnDma_r_0 (N : Nat) (G_spec_DmaRead : ∀ {R : Type} (s : ByteArray) (n : Int) (n1 : Int) (n2 : Int) (k : Int → Int → ByteArray → ByteArray → Option R), Option R) (G_impl_DmaRead : ∀ {R : Type} (s : ByteArray) (n : Int) (n1 : Int) (n2 : Int) (k : Int → Int → ByteArray → ByteArray → Option R), Option R) (G_laws_lwFrame : ∀ {R : Type} (s : ByteArray) (n : Int) (k : ByteArray → Option R), Option R) (G_laws_lwHas_r : ∀ {R : Type} (b : Bool) (n : Int) (l : List Int) (k : Bool → Option R), Option R) (G_spec_Walk : ∀ {R : Type} (s : ByteArray) (n : Int) (n1 : Int) (n2 : Int) (b : Bool) (k : Int → Int → Int → Bool → Bool → ByteArray → (List Int) → Option R), Option R) (G_impl_DmaWrite : ∀ {R : Type} (s : ByteArray) (n : Int) (n1 : Int) (s1 : ByteArray) (k : Int → Int → ByteArray → Option R), Option R) (G_spec_DmaWrite : ∀ {R : Type} (s : ByteArray) (n : Int) (n1 : Int) (s1 : ByteArray) (k : Int → Int → ByteArray → Option R), Option R) (G_spec_DrawDmaWrite_r : ∀ {R : Type} (b : Bool) (l : List Int) (k : ByteArray → Int → Int → ByteArray → Option R), Option R) {R : Type} (s4 : ByteArray) (n6 : Int) (n7 : Int) (s5 : ByteArray) (b1 : Bool) (l1 : List Int) (n9 : Int) (n10 : Int) (s6 : ByteArray) (s7 : ByteArray) (l2 : List Int) (b2 : Bool) (b3 : Bool) (b4 : Bool) (n8 : Int) (l3 : List Int) (l4 : List Int) (AG : List (Option AV) → Hp E → Option R) (KL : Ex → List (Option AV) → Hp E → Option R) :
    iterStep (E := E) (OA_laws_FnDma_r N G_spec_DmaRead G_impl_DmaRead G_laws_lwFrame G_laws_lwHas_r G_spec_Walk G_impl_DmaWrite G_spec_DmaWrite G_spec_DrawDmaWrite_r) (fun {R} => LI (noIt) 1 208 sl_laws_FnDma_r (R := R)) J_laws_FnDma_r 1 208 0 [3, 4, 5, 6, 8, 9, 10, 11, 12, 13] [3, 4, 5, 6, 8, 9, 10, 11, 12] (body Try.f6 0) AG KL [(some (AV.sc (SV.str s4))), (some (AV.sc (SV.int IntKind.i64 n6))), (some (AV.sc (SV.int IntKind.i64 n7))), (some (AV.sc (SV.str s5))), (some (AV.sc (SV.ptr 1 0 0))), (some (AV.sc (SV.slc 2 none b1))), (some (AV.sc (SV.slc 3 none b2))), (some (AV.sc (SV.slc 4 none b3))), (some (AV.sc (SV.bool b4))), (some (AV.sc (SV.int IntKind.i64 n8)))] [(some (HE.mk true (HB.rows (B.u8 l1)))), (some (HE.mk false (HB.exp none [(SV.int IntKind.i64 n9), (SV.int IntKind.i64 n10), (SV.str s6), (SV.str s7)]))), (some (HE.mk false (HB.rows (B.i64 l2)))), (some (HE.mk false (HB.rows (B.i64 l3)))), (some (HE.mk false (HB.rows (B.i64 l4))))] =
      ga_s_laws_FnDma_r_0 N G_spec_DmaRead G_impl_DmaRead G_laws_lwFrame G_laws_lwHas_r G_spec_Walk G_impl_DmaWrite G_spec_DmaWrite G_spec_DrawDmaWrite_r s4 n6 n7 s5 b1 l1 n9 n10 s6 s7 l2 b2 b3 b4 n8 l3 l4 (fun b2 b3 b4 n8 l3 l4 => AG [(some (AV.sc (SV.str s4))), (some (AV.sc (SV.int IntKind.i64 n6))), (some (AV.sc (SV.int IntKind.i64 n7))), (some (AV.sc (SV.str s5))), (some (AV.sc (SV.ptr 1 0 0))), (some (AV.sc (SV.slc 2 none b1))), (some (AV.sc (SV.slc 3 none b2))), (some (AV.sc (SV.slc 4 none b3))), (some (AV.sc (SV.bool b4))), (some (AV.sc (SV.int IntKind.i64 n8)))] [(some (HE.mk true (HB.rows (B.u8 l1)))), (some (HE.mk false (HB.exp none [(SV.int IntKind.i64 n9), (SV.int IntKind.i64 n10), (SV.str s6), (SV.str s7)]))), (some (HE.mk false (HB.rows (B.i64 l2)))), (some (HE.mk false (HB.rows (B.i64 l3)))), (some (HE.mk false (HB.rows (B.i64 l4))))])  (fun b21 b22 b23 l14 l15 => KL Ex.normal [(some (AV.sc (SV.str s4))), (some (AV.sc (SV.int IntKind.i64 n6))), (some (AV.sc (SV.int IntKind.i64 n7))), (some (AV.sc (SV.str s5))), (some (AV.sc (SV.ptr 1 0 0))), (some (AV.sc (SV.slc 2 none b1))), (some (AV.sc (SV.slc 3 none b21))), (some (AV.sc (SV.slc 4 none b22))), (some (AV.sc (SV.bool b23)))] [(some (HE.mk true (HB.rows (B.u8 l1)))), (some (HE.mk false (HB.exp none [(SV.int IntKind.i64 n9), (SV.int IntKind.i64 n10), (SV.str s6), (SV.str s7)]))), (some (HE.mk false (HB.rows (B.i64 l2)))), (some (HE.mk false (HB.rows (B.i64 l14)))), (some (HE.mk false (HB.rows (B.i64 l15))))]) := by kernel_rfl
theorem se_laws_FnDma_r_0 (N : Nat) {R : Type} (s4 : ByteArray) (n6 : Int) (n7 : Int) (s5 : ByteArray) (b1 : Bool) (l1 : List Int) (n9 : Int) (n10 : Int) (s6 : ByteArray) (s7 : ByteArray) (l2 : List Int) (b2 : Bool) (b3 : Bool) (b4 : Bool) (n8 : Int) (l3 : List Int) (l4 : List Int) (AG : List (Option AV) → Hp E → Option R) (KL : Ex → List (Option AV) → Hp E → Option R) :
    iterStep (E := E) (O_laws_FnDma_r N) (fun {R} => LI (noIt) 1 208 sl_laws_FnDma_r (R := R)) J_laws_FnDma_r 1 208 0 [3, 4, 5, 6, 8, 9, 10, 11, 12, 13] [3, 4, 5, 6, 8, 9, 10, 11, 12] (body Try.f6 0) AG KL [(some (AV.sc (SV.str s4))), (some (AV.sc (SV.int IntKind.i64 n6))), (some (AV.sc (SV.int IntKind.i64 n7))), (some (AV.sc (SV.str s5))), (some (AV.sc (SV.ptr 1 0 0))), (some (AV.sc (SV.slc 2 none b1))), (some (AV.sc (SV.slc 3 none b2))), (some (AV.sc (SV.slc 4 none b3))), (some (AV.sc (SV.bool b4))), (some (AV.sc (SV.int IntKind.i64 n8)))] [(some (HE.mk true (HB.rows (B.u8 l1)))), (some (HE.mk false (HB.exp none [(SV.int IntKind.i64 n9), (SV.int IntKind.i64 n10), (SV.str s6), (SV.str s7)]))), (some (HE.mk false (HB.rows (B.i64 l2)))), (some (HE.mk false (HB.rows (B.i64 l3)))), (some (HE.mk false (HB.rows (B.i64 l4))))] =
      s_laws_FnDma_r_0 N s4 n6 n7 s5 b1 l1 n9 n10 s6 s7 l2 b2 b3 b4 n8 l3 l4 (fun b2 b3 b4 n8 l3 l4 => AG [(some (AV.sc (SV.str s4))), (some (AV.sc (SV.int IntKind.i64 n6))), (some (AV.sc (SV.int IntKind.i64 n7))), (some (AV.sc (SV.str s5))), (some (AV.sc (SV.ptr 1 0 0))), (some (AV.sc (SV.slc 2 none b1))), (some (AV.sc (SV.slc 3 none b2))), (some (AV.sc (SV.slc 4 none b3))), (some (AV.sc (SV.bool b4))), (some (AV.sc (SV.int IntKind.i64 n8)))] [(some (HE.mk true (HB.rows (B.u8 l1)))), (some (HE.mk false (HB.exp none [(SV.int IntKind.i64 n9), (SV.int IntKind.i64 n10), (SV.str s6), (SV.str s7)]))), (some (HE.mk false (HB.rows (B.i64 l2)))), (some (HE.mk false (HB.rows (B.i64 l3)))), (some (HE.mk false (HB.rows (B.i64 l4))))])  (fun b21 b22 b23 l14 l15 => KL Ex.normal [(some (AV.sc (SV.str s4))), (some (AV.sc (SV.int IntKind.i64 n6))), (some (AV.sc (SV.int IntKind.i64 n7))), (some (AV.sc (SV.str s5))), (some (AV.sc (SV.ptr 1 0 0))), (some (AV.sc (SV.slc 2 none b1))), (some (AV.sc (SV.slc 3 none b21))), (some (AV.sc (SV.slc 4 none b22))), (some (AV.sc (SV.bool b23)))] [(some (HE.mk true (HB.rows (B.u8 l1)))), (some (HE.mk false (HB.exp none [(SV.int IntKind.i64 n9), (SV.int IntKind.i64 n10), (SV.str s6), (SV.str s7)]))), (some (HE.mk false (HB.rows (B.i64 l2)))), (some (HE.mk false (HB.rows (B.i64 l14)))), (some (HE.mk false (HB.rows (B.i64 l15))))]) := castPr (by kernel_rfl) (ea_se_laws_FnDma_r_0 N (g_spec_DmaRead N) (g_impl_DmaRead N) (g_laws_lwFrame N) (g_laws_lwHas_r N) (g_spec_Walk N) (g_impl_DmaWrite N) (g_spec_DmaWrite N) (g_spec_DrawDmaWrite_r N) s4 n6 n7 s5 b1 l1 n9 n10 s6 s7 l2 b2 b3 b4 n8 l3 l4 AG KL)
theorem le_laws_FnDma_r_0 (N : Nat) {R : Type} (s4 : ByteArray) (n6 : Int) (n7 : Int) (s5 : ByteArray) (b1 : Bool) (l1 : List Int) (n9 : Int) (n10 : Int) (s6 : ByteArray) (s7 : ByteArray) (l2 : List Int) (KL : Ex → List (Option AV) → Hp E → Option R) : ∀ (f : Nat), ∀ (b2 : Bool) (b3 : Bool) (b4 : Bool) (n8 : Int) (l3 : List Int) (l4 : List Int), iterK (E := E) (O_laws_FnDma_r N) (fun {R} => LI (noIt) 1 208 sl_laws_FnDma_r (R := R)) J_laws_FnDma_r 1 208 0 [3, 4, 5, 6, 8, 9, 10, 11, 12, 13] [3, 4, 5, 6, 8, 9, 10, 11, 12] (body Try.f6 0) f [(some (AV.sc (SV.str s4))), (some (AV.sc (SV.int IntKind.i64 n6))), (some (AV.sc (SV.int IntKind.i64 n7))), (some (AV.sc (SV.str s5))), (some (AV.sc (SV.ptr 1 0 0))), (some (AV.sc (SV.slc 2 none b1))), (some (AV.sc (SV.slc 3 none b2))), (some (AV.sc (SV.slc 4 none b3))), (some (AV.sc (SV.bool b4))), (some (AV.sc (SV.int IntKind.i64 n8)))] [(some (HE.mk true (HB.rows (B.u8 l1)))), (some (HE.mk false (HB.exp none [(SV.int IntKind.i64 n9), (SV.int IntKind.i64 n10), (SV.str s6), (SV.str s7)]))), (some (HE.mk false (HB.rows (B.i64 l2)))), (some (HE.mk false (HB.rows (B.i64 l3)))), (some (HE.mk false (HB.rows (B.i64 l4))))] KL = l_laws_FnDma_r_0 N s4 n6 n7 s5 b1 l1 n9 n10 s6 s7 l2 (fun b21 b22 b23 l14 l15 => KL Ex.normal [(some (AV.sc (SV.str s4))), (some (AV.sc (SV.int IntKind.i64 n6))), (some (AV.sc (SV.int IntKind.i64 n7))), (some (AV.sc (SV.str s5))), (some (AV.sc (SV.ptr 1 0 0))), (some (AV.sc (SV.slc 2 none b1))), (some (AV.sc (SV.slc 3 none b21))), (some (AV.sc (SV.slc 4 none b22))), (some (AV.sc (SV.bool b23)))] [(some (HE.mk true (HB.rows (B.u8 l1)))), (some (HE.mk false (HB.exp none [(SV.int IntKind.i64 n9), (SV.int IntKind.i64 n10), (SV.str s6), (SV.str s7)]))), (some (HE.mk false (HB.rows (B.i64 l2)))), (some (HE.mk false (HB.rows (B.i64 l14)))), (some (HE.mk false (HB.rows (B.i64 l15))))]) f b2 b3 b4 n8 l3 l4 := by
  intro f
  induction f with
  | zero => intros; rfl
  | succ f ih =>
    intro b2 b3 b4 n8 l3 l4
    rw [iterK_succ, se_laws_FnDma_r_0]
    exact (congrArg (fun z0 => s_laws_FnDma_r_0 N s4 n6 n7 s5 b1 l1 n9 n10 s6 s7 l2 b2 b3 b4 n8 l3 l4 z0 (fun b21 b22 b23 l14 l15 => KL Ex.normal [(some (AV.sc (SV.str s4))), (some (AV.sc (SV.int IntKind.i64 n6))), (some (AV.sc (SV.int IntKind.i64 n7))), (some (AV.sc (SV.str s5))), (some (AV.sc (SV.ptr 1 0 0))), (some (AV.sc (SV.slc 2 none b1))), (some (AV.sc (SV.slc 3 none b21))), (some (AV.sc (SV.slc 4 none b22))), (some (AV.sc (SV.bool b23)))] [(some (HE.mk true (HB.rows (B.u8 l1)))), (some (HE.mk false (HB.exp none [(SV.int IntKind.i64 n9), (SV.int IntKind.i64 n10), (SV.str s6), (SV.str s7)]))), (some (HE.mk false (HB.rows (B.i64 l2)))), (some (HE.mk false (HB.rows (B.i64 l14)))), (some (HE.mk false (HB.rows (B.i64 l15))))])) (funext fun b2 => funext fun b3 => funext fun b4 => funext fun n8 => funext fun l3 => funext fun l4 => ih b2 b3 b4 n8 l3 l4))
noncomputable def i_laws_FnDma_r_0 (N : Nat) {R : Type} (vs : List (Option AV)) (H : Hp E) (KL : Ex → List (Option AV) → Hp E → Option R) : Option R :=
 match vs, H with
 | [(some (AV.sc (SV.str s4))), (some (AV.sc (SV.int IntKind.i64 n6))), (some (AV.sc (SV.int IntKind.i64 n7))), (some (AV.sc (SV.str s5))), (some (AV.sc (SV.ptr 1 0 0))), (some (AV.sc (SV.slc 2 none b1))), (some (AV.sc (SV.slc 3 none b2))), (some (AV.sc (SV.slc 4 none b3))), (some (AV.sc (SV.bool b4))), (some (AV.sc (SV.int IntKind.i64 n8)))], [(some (HE.mk true (HB.rows (B.u8 l1)))), (some (HE.mk false (HB.exp none [(SV.int IntKind.i64 n9), (SV.int IntKind.i64 n10), (SV.str s6), (SV.str s7)]))), (some (HE.mk false (HB.rows (B.i64 l2)))), (some (HE.mk false (HB.rows (B.i64 l3)))), (some (HE.mk false (HB.rows (B.i64 l4))))] => c_laws_FnDma_r_0 N s4 n6 n7 s5 b1 l1 n9 n10 s6 s7 l2 b2 b3 b4 n8 l3 l4 (fun b24 b25 b26 l16 l17 => KL Ex.normal [(some (AV.sc (SV.str s4))), (some (AV.sc (SV.int IntKind.i64 n6))), (some (AV.sc (SV.int IntKind.i64 n7))), (some (AV.sc (SV.str s5))), (some (AV.sc (SV.ptr 1 0 0))), (some (AV.sc (SV.slc 2 none b1))), (some (AV.sc (SV.slc 3 none b24))), (some (AV.sc (SV.slc 4 none b25))), (some (AV.sc (SV.bool b26)))] [(some (HE.mk true (HB.rows (B.u8 l1)))), (some (HE.mk false (HB.exp none [(SV.int IntKind.i64 n9), (SV.int IntKind.i64 n10), (SV.str s6), (SV.str s7)]))), (some (HE.mk false (HB.rows (B.i64 l2)))), (some (HE.mk false (HB.rows (B.i64 l16)))), (some (HE.mk false (HB.rows (B.i64 l17))))])
 | _, _ => none
noncomputable def IT_laws_FnDma_r_0 (N : Nat) : Its E := addIt 0 (i_laws_FnDma_r_0 N) (noIt)
theorem IT_laws_FnDma_r_0_ok (N : Nat) : ItOk (IT_laws_FnDma_r_0 N) 1 208 sl_laws_FnDma_r (lsB Try.f6 [0]) :=
  addItB_ok (inner := []) ok (O_laws_FnDma_r_ok N) (jn_ok _ _ _) (noIt_ok) rfl (by kernel_rfl) rfl fun vs H KL r h => by
    unfold i_laws_FnDma_r_0 at h
    split at h
    · exact ⟨_, (le_laws_FnDma_r_0 N _ _ _ _ _ _ _ _ _ _ _ KL N _ _ _ _ _ _).trans h⟩
    · cases h
noncomputable def s_laws_FnDma_r_2 (N : Nat) {R : Type} (s9 : ByteArray) (n14 : Int) (n15 : Int) (s10 : ByteArray) (b11 : Bool) (b12 : Bool) (b13 : Bool) (l8 : List Int) (n17 : Int) (n18 : Int) (s11 : ByteArray) (s12 : ByteArray) (l9 : List Int) (l10 : List Int) (l11 : List Int) (b14 : Bool) (n16 : Int) (ag : Bool → Int → Option R)  (kN : Bool → Option R) : Option R :=
 (cond (decide ((n16 < (((List.length l11) : Nat) : Int))))
 (oK (cond b14
 (cond ((decide (((0 : Int) ≤ n16))) && (decide ((n16 < (((List.length l11) : Nat) : Int)))))
 (elemK l11 (Int.toNat n16) fun x =>
 (g_laws_lwHas_r N b12 x l10 fun b15 =>
 (some (!b15))))
 none)
 (some false)) fun j4 =>
 (ag j4 (IntKind.wrap IntKind.i64 (n16 + (1 : Int)))))
 (kN b14))
noncomputable def ga_s_laws_FnDma_r_2 (N : Nat) (G_spec_DmaRead : ∀ {R : Type} (s : ByteArray) (n : Int) (n1 : Int) (n2 : Int) (k : Int → Int → ByteArray → ByteArray → Option R), Option R) (G_impl_DmaRead : ∀ {R : Type} (s : ByteArray) (n : Int) (n1 : Int) (n2 : Int) (k : Int → Int → ByteArray → ByteArray → Option R), Option R) (G_laws_lwFrame : ∀ {R : Type} (s : ByteArray) (n : Int) (k : ByteArray → Option R), Option R) (G_laws_lwHas_r : ∀ {R : Type} (b : Bool) (n : Int) (l : List Int) (k : Bool → Option R), Option R) (G_spec_Walk : ∀ {R : Type} (s : ByteArray) (n : Int) (n1 : Int) (n2 : Int) (b : Bool) (k : Int → Int → Int → Bool → Bool → ByteArray → (List Int) → Option R), Option R) (G_impl_DmaWrite : ∀ {R : Type} (s : ByteArray) (n : Int) (n1 : Int) (s1 : ByteArray) (k : Int → Int → ByteArray → Option R), Option R) (G_spec_DmaWrite : ∀ {R : Type} (s : ByteArray) (n : Int) (n1 : Int) (s1 : ByteArray) (k : Int → Int → ByteArray → Option R), Option R) (G_spec_DrawDmaWrite_r : ∀ {R : Type} (b : Bool) (l : List Int) (k : ByteArray → Int → Int → ByteArray → Option R), Option R) {R : Type} (s9 : ByteArray) (n14 : Int) (n15 : Int) (s10 : ByteArray) (b11 : Bool) (b12 : Bool) (b13 : Bool) (l8 : List Int) (n17 : Int) (n18 : Int) (s11 : ByteArray) (s12 : ByteArray) (l9 : List Int) (l10 : List Int) (l11 : List Int) (b14 : Bool) (n16 : Int) (ag : Bool → Int → Option R)  (kN : Bool → Option R) : Option R :=
 (cond (decide ((n16 < (((List.length l11) : Nat) : Int))))
 (oK (cond b14
 (cond ((decide (((0 : Int) ≤ n16))) && (decide ((n16 < (((List.length l11) : Nat) : Int)))))
 (elemK l11 (Int.toNat n16) fun x =>
 (G_laws_lwHas_r b12 x l10 fun b15 =>
 (some (!b15))))
 none)
 (some false)) fun j4 =>
 (ag j4 (IntKind.wrap IntKind.i64 (n16 + (1 : Int)))))
 (kN b14))
noncomputable def l_laws_FnDma_r_2 (N : Nat) {R : Type} (s9 : ByteArray) (n14 : Int) (n15 : Int) (s10 : ByteArray) (b11 : Bool) (b12 : Bool) (b13 : Bool) (l8 : List Int) (n17 : Int) (n18 : Int) (s11 : ByteArray) (s12 : ByteArray) (l9 : List Int) (l10 : List Int) (l11 : List Int) (kN : Bool → Option R) : Nat → Bool → Int → Option R
 | 0, _, _ => none
 | f + 1, b14, n16 => s_laws_FnDma_r_2 N s9 n14 n15 s10 b11 b12 b13 l8 n17 n18 s11 s12 l9 l10 l11 b14 n16 (fun b14 n16 => l_laws_FnDma_r_2 N s9 n14 n15 s10 b11 b12 b13 l8 n17 n18 s11 s12 l9 l10 l11 kN f b14 n16)  kN
noncomputable def c_laws_FnDma_r_2 (N : Nat) {R : Type} (s9 : ByteArray) (n14 : Int) (n15 : Int) (s10 : ByteArray) (b11 : Bool) (b12 : Bool) (b13 : Bool) (l8 : List Int) (n17 : Int) (n18 : Int) (s11 : ByteArray) (s12 : ByteArray) (l9 : List Int) (l10 : List Int) (l11 : List Int) (b14 : Bool) (n16 : Int) (kN : Bool → Option R) : Option R := l_laws_FnDma_r_2 N s9 n14 n15 s10 b11 b12 b13 l8 n17 n18 s11 s12 l9 l10 l11 kN N b14 n16
theorem ea_se_laws_FnDma_r_2 (N : Nat) (G_spec_DmaRead : ∀ {R : Type} (s : ByteArray) (n : Int) (n1 : Int) (n2 : Int) (k : Int → Int → ByteArray → ByteArray → Option R), Option R) (G_impl_DmaRead : ∀ {R : Type} (s : ByteArray) (n : Int) (n1 : Int) (n2 : Int) (k : Int → Int → ByteArray → ByteArray → Option R), Option R) (G_laws_lwFrame : ∀ {R : Type} (s : ByteArray) (n : Int) (k : ByteArray → Option R), Option R) (G_laws_lwHas_r : ∀ {R : Type} (b : Bool) (n : Int) (l : List Int) (k : Bool → Option R), Option R) (G_spec_Walk : ∀ {R : Type} (s : ByteArray) (n : Int) (n1 : Int) (n2 : Int) (b : Bool) (k : Int → Int → Int → Bool → Bool → ByteArray → (List Int) → Option R), Option R) (G_impl_DmaWrite : ∀ {R : Type} (s : ByteArray) (n : Int) (n1 : Int) (s1 : ByteArray) (k : Int → Int → ByteArray → Option R), Option R) (G_spec_DmaWrite : ∀ {R : Type} (s : ByteArray) (n : Int) (n1 : Int) (s1 : ByteArray) (k : Int → Int → ByteArray → Option R), Option R) (G_spec_DrawDmaWrite_r : ∀ {R : Type} (b : Bool) (l : List Int) (k : ByteArray → Int → Int → ByteArray → Option R), Option R) {R : Type} (s9 : ByteArray) (n14 : Int) (n15 : Int) (s10 : ByteArray) (b11 : Bool) (b12 : Bool) (b13 : Bool) (l8 : List Int) (n17 : Int) (n18 : Int) (s11 : ByteArray) (s12 : ByteArray) (l9 : List Int) (l10 : List Int) (l11 : List Int) (b14 : Bool) (n16 : Int) (AG : List (Option AV) → Hp E → Option R) (KL : Ex → List (Option AV) → Hp E → Option R) :
    iterStep (E := E) (OA_laws_FnDma_r N G_spec_DmaRead G_impl_DmaRead G_laws_lwFrame G_laws_lwHas_r G_spec_Walk G_impl_DmaWrite G_spec_DmaWrite G_spec_DrawDmaWrite_r) (fun {R} => LI (IT_laws_FnDma_r_0 N) 1 208 sl_laws_FnDma_r (R := R)) J_laws_FnDma_r 1 208 2 [3, 4, 5, 6, 8, 9, 10, 11, 12, 15] [3, 4, 5, 6, 8, 9, 10, 11, 12] (body Try.f6 2) AG KL [(some (AV.sc (SV.str s9))), (some (AV.sc (SV.int IntKind.i64 n14))), (some (AV.sc (SV.int IntKind.i64 n15))), (some (AV.sc (SV.str s10))), (some (AV.sc (SV.ptr 1 0 0))), (some (AV.sc (SV.slc 2 none b11))), (some (AV.sc (SV.slc 3 none b12))), (some (AV.sc (SV.slc 4 none b13))), (some (AV.sc (SV.bool b14))), (some (AV.sc (SV.int IntKind.i64 n16)))] [(some (HE.mk true (HB.rows (B.u8 l8)))), (some (HE.mk false (HB.exp none [(SV.int IntKind.i64 n17), (SV.int IntKind.i64 n18), (SV.str s11), (SV.str s12)]))), (some (HE.mk false (HB.rows (B.i64 l9)))), (some (HE.mk false (HB.rows (B.i64 l10)))), (some (HE.mk false (HB.rows (B.i64 l11))))] =
      ga_s_laws_FnDma_r_2 N G_spec_DmaRead G_impl_DmaRead G_laws_lwFrame G_laws_lwHas_r G_spec_Walk G_impl_DmaWrite G_spec_DmaWrite G_spec_DrawDmaWrite_r s9 n14 n15 s10 b11 b12 b13 l8 n17 n18 s11 s12 l9 l10 l11 b14 n16 (fun b14 n16 => AG [(some (AV.sc (SV.str s9))), (some (AV.sc (SV.int IntKind.i64 n14))), (some (AV.sc (SV.int IntKind.i64 n15))), (some (AV.sc (SV.str s10))), (some (AV.sc (SV.ptr 1 0 0))), (some (AV.sc (SV.slc 2 none b11))), (some (AV.sc (SV.slc 3 none b12))), (some (AV.sc (SV.slc 4 none b13))), (some (AV.sc (SV.bool b14))), (some (AV.sc (SV.int IntKind.i64 n16)))] [(some (HE.mk true (HB.rows (B.u8 l8)))), (some (HE.mk false (HB.exp none [(SV.int IntKind.i64 n17), (SV.int IntKind.i64 n18), (SV.str s11), (SV.str s12)]))), (some (HE.mk false (HB.rows (B.i64 l9)))), (some (HE.mk false (HB.rows (B.i64 l10)))), (some (HE.mk false (HB.rows (B.i64 l11))))])  (fun b27 => KL Ex.normal [(some (AV.sc (SV.str s9))), (some (AV.sc (SV.int IntKind.i64 n14))), (some (AV.sc (SV.int IntKind.i64 n15))), (some (AV.sc (SV.str s10))), (some (AV.sc (SV.ptr 1 0 0))), (some (AV.sc (SV.slc 2 none b11))), (some (AV.sc (SV.slc 3 none b12))), (some (AV.sc (SV.slc 4 none b13))), (some (AV.sc (SV.bool b27)))] [(some (HE.mk true (HB.rows (B.u8 l8)))), (some (HE.mk false (HB.exp none [(SV.int IntKind.i64 n17), (SV.int IntKind.i64 n18), (SV.str s11), (SV.str s12)]))), (some (HE.mk false (HB.rows (B.i64 l9)))), (some (HE.mk false (HB.rows (B.i64 l10)))), (some (HE.mk false (HB.rows (B.i64 l11))))]) := by kernel_rfl
theorem se_laws_FnDma_r_2 (N : Nat) {R : Type} (s9 : ByteArray) (n14 : Int) (n15 : Int) (s10 : ByteArray) (b11 : Bool) (b12 : Bool) (b13 : Bool) (l8 : List Int) (n17 : Int) (n18 : Int) (s11 : ByteArray) (s12 : ByteArray) (l9 : List Int) (l10 : List Int) (l11 : List Int) (b14 : Bool) (n16 : Int) (AG : List (Option AV) → Hp E → Option R) (KL : Ex → List (Option AV) → Hp E → Option R) :
    iterStep (E := E) (O_laws_FnDma_r N) (fun {R} => LI (IT_laws_FnDma_r_0 N) 1 208 sl_laws_FnDma_r (R := R)) J_laws_FnDma_r 1 208 2 [3, 4, 5, 6, 8, 9, 10, 11, 12, 15] [3, 4, 5, 6, 8, 9, 10, 11, 12] (body Try.f6 2) AG KL [(some (AV.sc (SV.str s9))), (some (AV.sc (SV.int IntKind.i64 n14))), (some (AV.sc (SV.int IntKind.i64 n15))), (some (AV.sc (SV.str s10))), (some (AV.sc (SV.ptr 1 0 0))), (some (AV.sc (SV.slc 2 none b11))), (some (AV.sc (SV.slc 3 none b12))), (some (AV.sc (SV.slc 4 none b13))), (some (AV.sc (SV.bool b14))), (some (AV.sc (SV.int IntKind.i64 n16)))] [(some (HE.mk true (HB.rows (B.u8 l8)))), (some (HE.mk false (HB.exp none [(SV.int IntKind.i64 n17), (SV.int IntKind.i64 n18), (SV.str s11), (SV.str s12)]))), (some (HE.mk false (HB.rows (B.i64 l9)))), (some (HE.mk false (HB.rows (B.i64 l10)))), (some (HE.mk false (HB.rows (B.i64 l11))))] =
      s_laws_FnDma_r_2 N s9 n14 n15 s10 b11 b12 b13 l8 n17 n18 s11 s12 l9 l10 l11 b14 n16 (fun b14 n16 => AG [(some (AV.sc (SV.str s9))), (some (AV.sc (SV.int IntKind.i64 n14))), (some (AV.sc (SV.int IntKind.i64 n15))), (some (AV.sc (SV.str s10))), (some (AV.sc (SV.ptr 1 0 0))), (some (AV.sc (SV.slc 2 none b11))), (some (AV.sc (SV.slc 3 none b12))), (some (AV.sc (SV.slc 4 none b13))), (some (AV.sc (SV.bool b14))), (some (AV.sc (SV.int IntKind.i64 n16)))] [(some (HE.mk true (HB.rows (B.u8 l8)))), (some (HE.mk false (HB.exp none [(SV.int IntKind.i64 n17), (SV.int IntKind.i64 n18), (SV.str s11), (SV.str s12)]))), (some (HE.mk false (HB.rows (B.i64 l9)))), (some (HE.mk false (HB.rows (B.i64 l10)))), (some (HE.mk false (HB.rows (B.i64 l11))))])  (fun b27 => KL Ex.normal [(some (AV.sc (SV.str s9))), (some (AV.sc (SV.int IntKind.i64 n14))), (some (AV.sc (SV.int IntKind.i64 n15))), (some (AV.sc (SV.str s10))), (some (AV.sc (SV.ptr 1 0 0))), (some (AV.sc (SV.slc 2 none b11))), (some (AV.sc (SV.slc 3 none b12))), (some (AV.sc (SV.slc 4 none b13))), (some (AV.sc (SV.bool b27)))] [(some (HE.mk true (HB.rows (B.u8 l8)))), (some (HE.mk false (HB.exp none [(SV.int IntKind.i64 n17), (SV.int IntKind.i64 n18), (SV.str s11), (SV.str s12)]))), (some (HE.mk false (HB.rows (B.i64 l9)))), (some (HE.mk false (HB.rows (B.i64 l10)))), (some (HE.mk false (HB.rows (B.i64 l11))))]) := castPr (by kernel_rfl) (ea_se_laws_FnDma_r_2 N (g_spec_DmaRead N) (g_impl_DmaRead N) (g_laws_lwFrame N) (g_laws_lwHas_r N) (g_spec_Walk N) (g_impl_DmaWrite N) (g_spec_DmaWrite N) (g_spec_DrawDmaWrite_r N) s9 n14 n15 s10 b11 b12 b13 l8 n17 n18 s11 s12 l9 l10 l11 b14 n16 AG KL)
theorem le_laws_FnDma_r_2 (N : Nat) {R : Type} (s9 : ByteArray) (n14 : Int) (n15 : Int) (s10 : ByteArray) (b11 : Bool) (b12 : Bool) (b13 : Bool) (l8 : List Int) (n17 : Int) (n18 : Int) (s11 : ByteArray) (s12 : ByteArray) (l9 : List Int) (l10 : List Int) (l11 : List Int) (KL : Ex → List (Option AV) → Hp E → Option R) : ∀ (f : Nat), ∀ (b14 : Bool) (n16 : Int), iterK (E := E) (O_laws_FnDma_r N) (fun {R} => LI (IT_laws_FnDma_r_0 N) 1 208 sl_laws_FnDma_r (R := R)) J_laws_FnDma_r 1 208 2 [3, 4, 5, 6, 8, 9, 10, 11, 12, 15] [3, 4, 5, 6, 8, 9, 10, 11, 12] (body Try.f6 2) f [(some (AV.sc (SV.str s9))), (some (AV.sc (SV.int IntKind.i64 n14))), (some (AV.sc (SV.int IntKind.i64 n15))), (some (AV.sc (SV.str s10))), (some (AV.sc (SV.ptr 1 0 0))), (some (AV.sc (SV.slc 2 none b11))), (some (AV.sc (SV.slc 3 none b12))), (some (AV.sc (SV.slc 4 none b13))), (some (AV.sc (SV.bool b14))), (some (AV.sc (SV.int IntKind.i64 n16)))] [(some (HE.mk true (HB.rows (B.u8 l8)))), (some (HE.mk false (HB.exp none [(SV.int IntKind.i64 n17), (SV.int IntKind.i64 n18), (SV.str s11), (SV.str s12)]))), (some (HE.mk false (HB.rows (B.i64 l9)))), (some (HE.mk false (HB.rows (B.i64 l10)))), (some (HE.mk false (HB.rows (B.i64 l11))))] KL = l_laws_FnDma_r_2 N s9 n14 n15 s10 b11 b12 b13 l8 n17 n18 s11 s12 l9 l10 l11 (fun b27 => KL Ex.normal [(some (AV.sc (SV.str s9))), (some (AV.sc (SV.int IntKind.i64 n14))), (some (AV.sc (SV.int IntKind.i64 n15))), (some (AV.sc (SV.str s10))), (some (AV.sc (SV.ptr 1 0 0))), (some (AV.sc (SV.slc 2 none b11))), (some (AV.sc (SV.slc 3 none b12))), (some (AV.sc (SV.slc 4 none b13))), (some (AV.sc (SV.bool b27)))] [(some (HE.mk true (HB.rows (B.u8 l8)))), (some (HE.mk false (HB.exp none [(SV.int IntKind.i64 n17), (SV.int IntKind.i64 n18), (SV.str s11), (SV.str s12)]))), (some (HE.mk false (HB.rows (B.i64 l9)))), (some (HE.mk false (HB.rows (B.i64 l10)))), (some (HE.mk false (HB.rows (B.i64 l11))))]) f b14 n16 := by
  intro f
  induction f with
  | zero => intros; rfl
  | succ f ih =>
    intro b14 n16
    rw [iterK_succ, se_laws_FnDma_r_2]
    exact (congrArg (fun z0 => s_laws_FnDma_r_2 N s9 n14 n15 s10 b11 b12 b13 l8 n17 n18 s11 s12 l9 l10 l11 b14 n16 z0 (fun b27 => KL Ex.normal [(some (AV.sc (SV.str s9))), (some (AV.sc (SV.int IntKind.i64 n14))), (some (AV.sc (SV.int IntKind.i64 n15))), (some (AV.sc (SV.str s10))), (some (AV.sc (SV.ptr 1 0 0))), (some (AV.sc (SV.slc 2 none b11))), (some (AV.sc (SV.slc 3 none b12))), (some (AV.sc (SV.slc 4 none b13))), (some (AV.sc (SV.bool b27)))] [(some (HE.mk true (HB.rows (B.u8 l8)))), (some (HE.mk false (HB.exp none [(SV.int IntKind.i64 n17), (SV.int IntKind.i64 n18), (SV.str s11), (SV.str s12)]))), (some (HE.mk false (HB.rows (B.i64 l9)))), (some (HE.mk false (HB.rows (B.i64 l10)))), (some (HE.mk false (HB.rows (B.i64 l11))))])) (funext fun b14 => funext fun n16 => ih b14 n16))
noncomputable def i_laws_FnDma_r_2 (N : Nat) {R : Type} (vs : List (Option AV)) (H : Hp E) (KL : Ex → List (Option AV) → Hp E → Option R) : Option R :=
 match vs, H with
 | [(some (AV.sc (SV.str s9))), (some (AV.sc (SV.int IntKind.i64 n14))), (some (AV.sc (SV.int IntKind.i64 n15))), (some (AV.sc (SV.str s10))), (some (AV.sc (SV.ptr 1 0 0))), (some (AV.sc (SV.slc 2 none b11))), (some (AV.sc (SV.slc 3 none b12))), (some (AV.sc (SV.slc 4 none b13))), (some (AV.sc (SV.bool b14))), (some (AV.sc (SV.int IntKind.i64 n16)))], [(some (HE.mk true (HB.rows (B.u8 l8)))), (some (HE.mk false (HB.exp none [(SV.int IntKind.i64 n17), (SV.int IntKind.i64 n18), (SV.str s11), (SV.str s12)]))), (some (HE.mk false (HB.rows (B.i64 l9)))), (some (HE.mk false (HB.rows (B.i64 l10)))), (some (HE.mk false (HB.rows (B.i64 l11))))] => c_laws_FnDma_r_2 N s9 n14 n15 s10 b11 b12 b13 l8 n17 n18 s11 s12 l9 l10 l11 b14 n16 (fun b28 => KL Ex.normal [(some (AV.sc (SV.str s9))), (some (AV.sc (SV.int IntKind.i64 n14))), (some (AV.sc (SV.int IntKind.i64 n15))), (some (AV.sc (SV.str s10))), (some (AV.sc (SV.ptr 1 0 0))), (some (AV.sc (SV.slc 2 none b11))), (some (AV.sc (SV.slc 3 none b12))), (some (AV.sc (SV.slc 4 none b13))), (some (AV.sc (SV.bool b28)))] [(some (HE.mk true (HB.rows (B.u8 l8)))), (some (HE.mk false (HB.exp none [(SV.int IntKind.i64 n17), (SV.int IntKind.i64 n18), (SV.str s11), (SV.str s12)]))), (some (HE.mk false (HB.rows (B.i64 l9)))), (some (HE.mk false (HB.rows (B.i64 l10)))), (some (HE.mk false (HB.rows (B.i64 l11))))])
 | _, _ => none
noncomputable def IT_laws_FnDma_r_2 (N : Nat) : Its E := addIt 2 (i_laws_FnDma_r_2 N) (IT_laws_FnDma_r_0 N)
theorem IT_laws_FnDma_r_2_ok (N : Nat) : ItOk (IT_laws_FnDma_r_2 N) 1 208 sl_laws_FnDma_r (lsB Try.f6 [2, 0]) :=
  addItB_ok (inner := []) ok (O_laws_FnDma_r_ok N) (jn_ok _ _ _) (IT_laws_FnDma_r_0_ok N) rfl (by kernel_rfl) rfl fun vs H KL r h => by
    unfold i_laws_FnDma_r_2 at h
    split at h
    · exact ⟨_, (le_laws_FnDma_r_2 N _ _ _ _ _ _ _ _ _ _ _ _ _ _ _ KL N _ _).trans h⟩
    · cases h
noncomputable def s_laws_FnDma_r_4 (N : Nat) {R : Type} (s13 : ByteArray) (n19 : Int) (n20 : Int) (s14 : ByteArray) (b17 : Bool) (b18 : Bool) (l12 : List Int) (n22 : Int) (n23 : Int) (s15 : ByteArray) (s16 : ByteArray) (l13 : List Int) (n21 : Int) (ag : Int → Option R)  (kR : Option R) (kN : Option R) : Option R :=
 (cond (decide ((n21 < (IntKind.wrap IntKind.i64 (Int.tdiv (((ByteArray.size s13) : Nat) : Int) (256 : Int))))))
 (oK (g_laws_lwFrame N s13 n21 fun s17 =>
 (g_laws_lwFrame N s16 n21 fun s18 =>
 (cond (!(decide ((s17 = s18))))
 (g_laws_lwHas_r N b17 n21 l13 fun b19 =>
 (some (!b19)))
 (some false)))) fun j5 =>
 (cond j5
 kR
 (ag (IntKind.wrap IntKind.i64 (n21 + (1 : Int))))))
 kN)
noncomputable def ga_s_laws_FnDma_r_4 (N : Nat) (G_spec_DmaRead : ∀ {R : Type} (s : ByteArray) (n : Int) (n1 : Int) (n2 : Int) (k : Int → Int → ByteArray → ByteArray → Option R), Option R) (G_impl_DmaRead : ∀ {R : Type} (s : ByteArray) (n : Int) (n1 : Int) (n2 : Int) (k : Int → Int → ByteArray → ByteArray → Option R), Option R) (G_laws_lwFrame : ∀ {R : Type} (s : ByteArray) (n : Int) (k : ByteArray → Option R), Option R) (G_laws_lwHas_r : ∀ {R : Type} (b : Bool) (n : Int) (l : List Int) (k : Bool → Option R), Option R) (G_spec_Walk : ∀ {R : Type} (s : ByteArray) (n : Int) (n1 : Int) (n2 : Int) (b : Bool) (k : Int → Int → Int → Bool → Bool → ByteArray → (List Int) → Option R), Option R) (G_impl_DmaWrite : ∀ {R : Type} (s : ByteArray) (n : Int) (n1 : Int) (s1 : ByteArray) (k : Int → Int → ByteArray → Option R), Option R) (G_spec_DmaWrite : ∀ {R : Type} (s : ByteArray) (n : Int) (n1 : Int) (s1 : ByteArray) (k : Int → Int → ByteArray → Option R), Option R) (G_spec_DrawDmaWrite_r : ∀ {R : Type} (b : Bool) (l : List Int) (k : ByteArray → Int → Int → ByteArray → Option R), Option R) {R : Type} (s13 : ByteArray) (n19 : Int) (n20 : Int) (s14 : ByteArray) (b17 : Bool) (b18 : Bool) (l12 : List Int) (n22 : Int) (n23 : Int) (s15 : ByteArray) (s16 : ByteArray) (l13 : List Int) (n21 : Int) (ag : Int → Option R)  (kR : Option R) (kN : Option R) : Option R :=
 (cond (decide ((n21 < (IntKind.wrap IntKind.i64 (Int.tdiv (((ByteArray.size s13) : Nat) : Int) (256 : Int))))))
 (oK (G_laws_lwFrame s13 n21 fun s17 =>
 (G_laws_lwFrame s16 n21 fun s18 =>
 (cond (!(decide ((s17 = s18))))
 (G_laws_lwHas_r b17 n21 l13 fun b19 =>
 (some (!b19)))
 (some false)))) fun j5 =>
 (cond j5
 kR
 (ag (IntKind.wrap IntKind.i64 (n21 + (1 : Int))))))
 kN)
noncomputable def l_laws_FnDma_r_4 (N : Nat) {R : Type} (s13 : ByteArray) (n19 : Int) (n20 : Int) (s14 : ByteArray) (b17 : Bool) (b18 : Bool) (l12 : List Int) (n22 : Int) (n23 : Int) (s15 : ByteArray) (s16 : ByteArray) (l13 : List Int) (kR : Option R) (kN : Option R) : Nat → Int → Option R
 | 0, _ => none
 | f + 1, n21 => s_laws_FnDma_r_4 N s13 n19 n20 s14 b17 b18 l12 n22 n23 s15 s16 l13 n21 (fun n21 => l_laws_FnDma_r_4 N s13 n19 n20 s14 b17 b18 l12 n22 n23 s15 s16 l13 kR kN f n21)  kR kN
noncomputable def c_laws_FnDma_r_4 (N : Nat) {R : Type} (s13 : ByteArray) (n19 : Int) (n20 : Int) (s14 : ByteArray) (b17 : Bool) (b18 : Bool) (l12 : List Int) (n22 : Int) (n23 : Int) (s15 : ByteArray) (s16 : ByteArray) (l13 : List Int) (n21 : Int) (kR : Option R) (kN : Option R) : Option R := l_laws_FnDma_r_4 N s13 n19 n20 s14 b17 b18 l12 n22 n23 s15 s16 l13 kR kN N n21
theorem ea_se_laws_FnDma_r_4 (N : Nat) (G_spec_DmaRead : ∀ {R : Type} (s : ByteArray) (n : Int) (n1 : Int) (n2 : Int) (k : Int → Int → ByteArray → ByteArray → Option R), Option R) (G_impl_DmaRead : ∀ {R : Type} (s : ByteArray) (n : Int) (n1 : Int) (n2 : Int) (k : Int → Int → ByteArray → ByteArray → Option R), Option R) (G_laws_lwFrame : ∀ {R : Type} (s : ByteArray) (n : Int) (k : ByteArray → Option R), Option R) (G_laws_lwHas_r : ∀ {R : Type} (b : Bool) (n : Int) (l : List Int) (k : Bool → Option R), Option R) (G_spec_Walk : ∀ {R : Type} (s : ByteArray) (n : Int) (n1 : Int) (n2 : Int) (b : Bool) (k : Int → Int → Int → Bool → Bool → ByteArray → (List Int) → Option R), Option R) (G_impl_DmaWrite : ∀ {R : Type} (s : ByteArray) (n : Int) (n1 : Int) (s1 : ByteArray) (k : Int → Int → ByteArray → Option R), Option R) (G_spec_DmaWrite : ∀ {R : Type} (s : ByteArray) (n : Int) (n1 : Int) (s1 : ByteArray) (k : Int → Int → ByteArray → Option R), Option R) (G_spec_DrawDmaWrite_r : ∀ {R : Type} (b : Bool) (l : List Int) (k : ByteArray → Int → Int → ByteArray → Option R), Option R) {R : Type} (s13 : ByteArray) (n19 : Int) (n20 : Int) (s14 : ByteArray) (b17 : Bool) (b18 : Bool) (l12 : List Int) (n22 : Int) (n23 : Int) (s15 : ByteArray) (s16 : ByteArray) (l13 : List Int) (n21 : Int) (AG : List (Option AV) → Hp E → Option R) (KL : Ex → List (Option AV) → Hp E → Option R) :
    iterStep (E := E) (OA_laws_FnDma_r N G_spec_DmaRead G_impl_DmaRead G_laws_lwFrame G_laws_lwHas_r G_spec_Walk G_impl_DmaWrite G_spec_DmaWrite G_spec_DrawDmaWrite_r) (fun {R} => LI (IT_laws_FnDma_r_2 N) 1 208 sl_laws_FnDma_r (R := R)) J_laws_FnDma_r 1 208 4 [3, 4, 5, 6, 8, 9, 12, 16] [2, 4, 5, 6, 8, 12] (body Try.f6 4) AG KL [(some (AV.sc (SV.str s13))), (some (AV.sc (SV.int IntKind.i64 n19))), (some (AV.sc (SV.int IntKind.i64 n20))), (some (AV.sc (SV.str s14))), (some (AV.sc (SV.ptr 1 0 0))), (some (AV.sc (SV.slc 2 none b17))), (some (AV.sc (SV.bool b18))), (some (AV.sc (SV.int IntKind.i64 n21)))] [(some (HE.mk true (HB.rows (B.u8 l12)))), (some (HE.mk false (HB.exp none [(SV.int IntKind.i64 n22), (SV.int IntKind.i64 n23), (SV.str s15), (SV.str s16)]))), (some (HE.mk false (HB.rows (B.i64 l13))))] =
      ga_s_laws_FnDma_r_4 N G_spec_DmaRead G_impl_DmaRead G_laws_lwFrame G_laws_lwHas_r G_spec_Walk G_impl_DmaWrite G_spec_DmaWrite G_spec_DrawDmaWrite_r s13 n19 n20 s14 b17 b18 l12 n22 n23 s15 s16 l13 n21 (fun n21 => AG [(some (AV.sc (SV.str s13))), (some (AV.sc (SV.int IntKind.i64 n19))), (some (AV.sc (SV.int IntKind.i64 n20))), (some (AV.sc (SV.str s14))), (some (AV.sc (SV.ptr 1 0 0))), (some (AV.sc (SV.slc 2 none b17))), (some (AV.sc (SV.bool b18))), (some (AV.sc (SV.int IntKind.i64 n21)))] [(some (HE.mk true (HB.rows (B.u8 l12)))), (some (HE.mk false (HB.exp none [(SV.int IntKind.i64 n22), (SV.int IntKind.i64 n23), (SV.str s15), (SV.str s16)]))), (some (HE.mk false (HB.rows (B.i64 l13))))])  (KL Ex.ret [(some (AV.sc (SV.bool false))), (some (AV.sc (SV.int IntKind.i64 n19))), (some (AV.sc (SV.int IntKind.i64 n20))), (some (AV.sc (SV.str s14))), (some (AV.sc (SV.ptr 1 0 0))), (some (AV.sc (SV.bool b18)))] [(some (HE.mk true (HB.rows (B.u8 l12)))), (some (HE.mk false (HB.exp none [(SV.int IntKind.i64 n22), (SV.int IntKind.i64 n23), (SV.str s15), (SV.str s16)])))]) (KL Ex.normal [none, (some (AV.sc (SV.int IntKind.i64 n19))), (some (AV.sc (SV.int IntKind.i64 n20))), (some (AV.sc (SV.str s14))), (some (AV.sc (SV.ptr 1 0 0))), (some (AV.sc (SV.bool b18)))] [(some (HE.mk true (HB.rows (B.u8 l12)))), (some (HE.mk false (HB.exp none [(SV.int IntKind.i64 n22), (SV.int IntKind.i64 n23), (SV.str s15), (SV.str s16)])))]) := by kernel_rfl
theorem se_laws_FnDma_r_4 (N : Nat) {R : Type} (s13 : ByteArray) (n19 : Int) (n20 : Int) (s14 : ByteArray) (b17 : Bool) (b18 : Bool) (l12 : List Int) (n22 : Int) (n23 : Int) (s15 : ByteArray) (s16 : ByteArray) (l13 : List Int) (n21 : Int) (AG : List (Option AV) → Hp E → Option R) (KL : Ex → List (Option AV) → Hp E → Option R) :
    iterStep (E := E) (O_laws_FnDma_r N) (fun {R} => LI (IT_laws_FnDma_r_2 N) 1 208 sl_laws_FnDma_r (R := R)) J_laws_FnDma_r 1 208 4 [3, 4, 5, 6, 8, 9, 12, 16] [2, 4, 5, 6, 8, 12] (body Try.f6 4) AG KL [(some (AV.sc (SV.str s13))), (some (AV.sc (SV.int IntKind.i64 n19))), (some (AV.sc (SV.int IntKind.i64 n20))), (some (AV.sc (SV.str s14))), (some (AV.sc (SV.ptr 1 0 0))), (some (AV.sc (SV.slc 2 none b17))), (some (AV.sc (SV.bool b18))), (some (AV.sc (SV.int IntKind.i64 n21)))] [(some (HE.mk true (HB.rows (B.u8 l12)))), (some (HE.mk false (HB.exp none [(SV.int IntKind.i64 n22), (SV.int IntKind.i64 n23), (SV.str s15), (SV.str s16)]))), (some (HE.mk false (HB.rows (B.i64 l13))))] =
      s_laws_FnDma_r_4 N s13 n19 n20 s14 b17 b18 l12 n22 n23 s15 s16 l13 n21 (fun n21 => AG [(some (AV.sc (SV.str s13))), (some (AV.sc (SV.int IntKind.i64 n19))), (some (AV.sc (SV.int IntKind.i64 n20))), (some (AV.sc (SV.str s14))), (some (AV.sc (SV.ptr 1 0 0))), (some (AV.sc (SV.slc 2 none b17))), (some (AV.sc (SV.bool b18))), (some (AV.sc (SV.int IntKind.i64 n21)))] [(some (HE.mk true (HB.rows (B.u8 l12)))), (some (HE.mk false (HB.exp none [(SV.int IntKind.i64 n22), (SV.int IntKind.i64 n23), (SV.str s15), (SV.str s16)]))), (some (HE.mk false (HB.rows (B.i64 l13))))])  (KL Ex.ret [(some (AV.sc (SV.bool false))), (some (AV.sc (SV.int IntKind.i64 n19))), (some (AV.sc (SV.int IntKind.i64 n20))), (some (AV.sc (SV.str s14))), (some (AV.sc (SV.ptr 1 0 0))), (some (AV.sc (SV.bool b18)))] [(some (HE.mk true (HB.rows (B.u8 l12)))), (some (HE.mk false (HB.exp none [(SV.int IntKind.i64 n22), (SV.int IntKind.i64 n23), (SV.str s15), (SV.str s16)])))]) (KL Ex.normal [none, (some (AV.sc (SV.int IntKind.i64 n19))), (some (AV.sc (SV.int IntKind.i64 n20))), (some (AV.sc (SV.str s14))), (some (AV.sc (SV.ptr 1 0 0))), (some (AV.sc (SV.bool b18)))] [(some (HE.mk true (HB.rows (B.u8 l12)))), (some (HE.mk false (HB.exp none [(SV.int IntKind.i64 n22), (SV.int IntKind.i64 n23), (SV.str s15), (SV.str s16)])))]) := castPr (by kernel_rfl) (ea_se_laws_FnDma_r_4 N (g_spec_DmaRead N) (g_impl_DmaRead N) (g_laws_lwFrame N) (g_laws_lwHas_r N) (g_spec_Walk N) (g_impl_DmaWrite N) (g_spec_DmaWrite N) (g_spec_DrawDmaWrite_r N) s13 n19 n20 s14 b17 b18 l12 n22 n23 s15 s16 l13 n21 AG KL)
theorem le_laws_FnDma_r_4 (N : Nat) {R : Type} (s13 : ByteArray) (n19 : Int) (n20 : Int) (s14 : ByteArray) (b17 : Bool) (b18 : Bool) (l12 : List Int) (n22 : Int) (n23 : Int) (s15 : ByteArray) (s16 : ByteArray) (l13 : List Int) (KL : Ex → List (Option AV) → Hp E → Option R) : ∀ (f : Nat), ∀ (n21 : Int), iterK (E := E) (O_laws_FnDma_r N) (fun {R} => LI (IT_laws_FnDma_r_2 N) 1 208 sl_laws_FnDma_r (R := R)) J_laws_FnDma_r 1 208 4 [3, 4, 5, 6, 8, 9, 12, 16] [2, 4, 5, 6, 8, 12] (body Try.f6 4) f [(some (AV.sc (SV.str s13))), (some (AV.sc (SV.int IntKind.i64 n19))), (some (AV.sc (SV.int IntKind.i64 n20))), (some (AV.sc (SV.str s14))), (some (AV.sc (SV.ptr 1 0 0))), (some (AV.sc (SV.slc 2 none b17))), (some (AV.sc (SV.bool b18))), (some (AV.sc (SV.int IntKind.i64 n21)))] [(some (HE.mk true (HB.rows (B.u8 l12)))), (some (HE.mk false (HB.exp none [(SV.int IntKind.i64 n22), (SV.int IntKind.i64 n23), (SV.str s15), (SV.str s16)]))), (some (HE.mk false (HB.rows (B.i64 l13))))] KL = l_laws_FnDma_r_4 N s13 n19 n20 s14 b17 b18 l12 n22 n23 s15 s16 l13 (KL Ex.ret [(some (AV.sc (SV.bool false))), (some (AV.sc (SV.int IntKind.i64 n19))), (some (AV.sc (SV.int IntKind.i64 n20))), (some (AV.sc (SV.str s14))), (some (AV.sc (SV.ptr 1 0 0))), (some (AV.sc (SV.bool b18)))] [(some (HE.mk true (HB.rows (B.u8 l12)))), (some (HE.mk false (HB.exp none [(SV.int IntKind.i64 n22), (SV.int IntKind.i64 n23), (SV.str s15), (SV.str s16)])))]) (KL Ex.normal [none, (some (AV.sc (SV.int IntKind.i64 n19))), (some (AV.sc (SV.int IntKind.i64 n20))), (some (AV.sc (SV.str s14))), (some (AV.sc (SV.ptr 1 0 0))), (some (AV.sc (SV.bool b18)))] [(some (HE.mk true (HB.rows (B.u8 l12)))), (some (HE.mk false (HB.exp none [(SV.int IntKind.i64 n22), (SV.int IntKind.i64 n23), (SV.str s15), (SV.str s16)])))]) f n21 := by
  intro f
  induction f with
  | zero => intros; rfl
  | succ f ih =>
    intro n21
    rw [iterK_succ, se_laws_FnDma_r_4]
    exact (congrArg (fun z0 => s_laws_FnDma_r_4 N s13 n19 n20 s14 b17 b18 l12 n22 n23 s15 s16 l13 n21 z0 (KL Ex.ret [(some (AV.sc (SV.bool false))), (some (AV.sc (SV.int IntKind.i64 n19))), (some (AV.sc (SV.int IntKind.i64 n20))), (some (AV.sc (SV.str s14))), (some (AV.sc (SV.ptr 1 0 0))), (some (AV.sc (SV.bool b18)))] [(some (HE.mk true (HB.rows (B.u8 l12)))), (some (HE.mk false (HB.exp none [(SV.int IntKind.i64 n22), (SV.int IntKind.i64 n23), (SV.str s15), (SV.str s16)])))]) (KL Ex.normal [none, (some (AV.sc (SV.int IntKind.i64 n19))), (some (AV.sc (SV.int IntKind.i64 n20))), (some (AV.sc (SV.str s14))), (some (AV.sc (SV.ptr 1 0 0))), (some (AV.sc (SV.bool b18)))] [(some (HE.mk true (HB.rows (B.u8 l12)))), (some (HE.mk false (HB.exp none [(SV.int IntKind.i64 n22), (SV.int IntKind.i64 n23), (SV.str s15), (SV.str s16)])))])) (funext fun n21 => ih n21))
noncomputable def i_laws_FnDma_r_4 (N : Nat) {R : Type} (vs : List (Option AV)) (H : Hp E) (KL : Ex → List (Option AV) → Hp E → Option R) : Option R :=
 match vs, H with
 | [(some (AV.sc (SV.str s13))), (some (AV.sc (SV.int IntKind.i64 n19))), (some (AV.sc (SV.int IntKind.i64 n20))), (some (AV.sc (SV.str s14))), (some (AV.sc (SV.ptr 1 0 0))), (some (AV.sc (SV.slc 2 none b17))), (some (AV.sc (SV.bool b18))), (some (AV.sc (SV.int IntKind.i64 n21)))], [(some (HE.mk true (HB.rows (B.u8 l12)))), (some (HE.mk false (HB.exp none [(SV.int IntKind.i64 n22), (SV.int IntKind.i64 n23), (SV.str s15), (SV.str s16)]))), (some (HE.mk false (HB.rows (B.i64 l13))))] => c_laws_FnDma_r_4 N s13 n19 n20 s14 b17 b18 l12 n22 n23 s15 s16 l13 n21 (KL Ex.ret [(some (AV.sc (SV.bool false))), (some (AV.sc (SV.int IntKind.i64 n19))), (some (AV.sc (SV.int IntKind.i64 n20))), (some (AV.sc (SV.str s14))), (some (AV.sc (SV.ptr 1 0 0))), (some (AV.sc (SV.bool b18)))] [(some (HE.mk true (HB.rows (B.u8 l12)))), (some (HE.mk false (HB.exp none [(SV.int IntKind.i64 n22), (SV.int IntKind.i64 n23), (SV.str s15), (SV.str s16)])))]) (KL Ex.normal [none, (some (AV.sc (SV.int IntKind.i64 n19))), (some (AV.sc (SV.int IntKind.i64 n20))), (some (AV.sc (SV.str s14))), (some (AV.sc (SV.ptr 1 0 0))), (some (AV.sc (SV.bool b18)))] [(some (HE.mk true (HB.rows (B.u8 l12)))), (some (HE.mk false (HB.exp none [(SV.int IntKind.i64 n22), (SV.int IntKind.i64 n23), (SV.str s15), (SV.str s16)])))])
 | _, _ => none
noncomputable def IT_laws_FnDma_r_4 (N : Nat) : Its E := addIt 4 (i_laws_FnDma_r_4 N) (IT_laws_FnDma_r_2 N)
theorem IT_laws_FnDma_r_4_ok (N : Nat) : ItOk (IT_laws_FnDma_r_4 N) 1 208 sl_laws_FnDma_r (lsB Try.f6 [4, 2, 0]) :=
  addItB_ok (inner := []) ok (O_laws_FnDma_r_ok N) (jn_ok _ _ _) (IT_laws_FnDma_r_2_ok N) rfl (by kernel_rfl) rfl fun vs H KL r h => by
    unfold i_laws_FnDma_r_4 at h
    split at h
    · exact ⟨_, (le_laws_FnDma_r_4 N _ _ _ _ _ _ _ _ _ _ _ _ KL N _).trans h⟩
    · cases h
noncomputable def g_laws_FnDma_r (N : Nat) {R : Type} (b : Bool) (l : List Int) (k : Bool → Option R) : Option R :=
 (cond (decide (((((List.length l) : Nat) : Int) > (1048576 : Int))))
 (k true)
 (g_spec_DrawDmaWrite_r N b l fun s n n1 s1 =>
 (g_spec_DmaWrite N s n n1 s1 fun n2 n3 s2 =>
 (g_impl_DmaWrite N s n n1 s1 fun n4 n5 s3 =>
 (oK (cond (n4 != n2)
 (some true)
 (cond (n5 != n3)
 (some true)
 (cond (!(decide ((s3 = s2))))
 (some true)
 (some (n4 != (0 : Int)))))) fun j =>
 (cond j
 (oK (cond (n4 == n2)
 (cond (n5 == n3)
 (some (decide ((s3 = s2))))
 (some false))
 (some false)) fun j1 =>
 (k j1))
 (c_laws_FnDma_r_0 N s n n1 s1 false l n4 n5 (ByteArray.mk (List.toArray [])) s3 [] false false true (0 : Int) [] [] fun b8 b9 b10 l6 l7 =>
 (c_laws_FnDma_r_2 N s n n1 s1 false b8 b9 l n4 n5 (ByteArray.mk (List.toArray [])) s3 [] l6 l7 b10 (0 : Int) fun b16 =>
 (cond (Go.Eng.roomOk (0 + (List.length l6)) 8)
 (cond (Go.Eng.roomOk ((List.length ([] ++ l6)) + (List.length l7)) 8)
 (c_laws_FnDma_r_4 N s n n1 s1 (cond (Nat.beq (List.length l7) 0) (cond (Nat.beq (List.length l6) 0) false false) false) b16 l n4 n5 (ByteArray.mk (List.toArray [])) s3 (([] ++ l6) ++ l7) (0 : Int) (
 (k false)) (
 (g_impl_DmaRead N s3 n n1 (((ByteArray.size s1) : Nat) : Int) fun n24 n25 s19 s20 =>
 (g_spec_DmaRead N s3 n n1 (((ByteArray.size s1) : Nat) : Int) fun n26 n27 s21 s22 =>
 (oK (cond (n24 == n26)
 (cond (decide ((s19 = s21)))
 (cond (!b16)
 (some true)
 (cond (n24 != (0 : Int))
 (some true)
 (some (decide ((s19 = s1))))))
 (some false))
 (some false)) fun j6 =>
 (k j6))))))
 none)
 none)))))))))
noncomputable def ga_g_laws_FnDma_r (N : Nat) (G_spec_DmaRead : ∀ {R : Type} (s : ByteArray) (n : Int) (n1 : Int) (n2 : Int) (k : Int → Int → ByteArray → ByteArray → Option R), Option R) (G_impl_DmaRead : ∀ {R : Type} (s : ByteArray) (n : Int) (n1 : Int) (n2 : Int) (k : Int → Int → ByteArray → ByteArray → Option R), Option R) (G_laws_lwFrame : ∀ {R : Type} (s : ByteArray) (n : Int) (k : ByteArray → Option R), Option R) (G_laws_lwHas_r : ∀ {R : Type} (b : Bool) (n : Int) (l : List Int) (k : Bool → Option R), Option R) (G_spec_Walk : ∀ {R : Type} (s : ByteArray) (n : Int) (n1 : Int) (n2 : Int) (b : Bool) (k : Int → Int → Int → Bool → Bool → ByteArray → (List Int) → Option R), Option R) (G_impl_DmaWrite : ∀ {R : Type} (s : ByteArray) (n : Int) (n1 : Int) (s1 : ByteArray) (k : Int → Int → ByteArray → Option R), Option R) (G_spec_DmaWrite : ∀ {R : Type} (s : ByteArray) (n : Int) (n1 : Int) (s1 : ByteArray) (k : Int → Int → ByteArray → Option R), Option R) (G_spec_DrawDmaWrite_r : ∀ {R : Type} (b : Bool) (l : List Int) (k : ByteArray → Int → Int → ByteArray → Option R), Option R) {R : Type} (b : Bool) (l : List Int) (k : Bool → Option R) : Option R :=
 (cond (decide (((((List.length l) : Nat) : Int) > (1048576 : Int))))
 (k true)
 (G_spec_DrawDmaWrite_r b l fun s n n1 s1 =>
 (G_spec_DmaWrite s n n1 s1 fun n2 n3 s2 =>
 (G_impl_DmaWrite s n n1 s1 fun n4 n5 s3 =>
 (oK (cond (n4 != n2)
 (some true)
 (cond (n5 != n3)
 (some true)
 (cond (!(decide ((s3 = s2))))
 (some true)
 (some (n4 != (0 : Int)))))) fun j =>
 (cond j
 (oK (cond (n4 == n2)
 (cond (n5 == n3)
 (some (decide ((s3 = s2))))
 (some false))
 (some false)) fun j1 =>
 (k j1))
 (c_laws_FnDma_r_0 N s n n1 s1 false l n4 n5 (ByteArray.mk (List.toArray [])) s3 [] false false true (0 : Int) [] [] fun b8 b9 b10 l6 l7 =>
 (c_laws_FnDma_r_2 N s n n1 s1 false b8 b9 l n4 n5 (ByteArray.mk (List.toArray [])) s3 [] l6 l7 b10 (0 : Int) fun b16 =>
 (cond (Go.Eng.roomOk (0 + (List.length l6)) 8)
 (cond (Go.Eng.roomOk ((List.length ([] ++ l6)) + (List.length l7)) 8)
 (c_laws_FnDma_r_4 N s n n1 s1 (cond (Nat.beq (List.length l7) 0) (cond (Nat.beq (List.length l6) 0) false false) false) b16 l n4 n5 (ByteArray.mk (List.toArray [])) s3 (([] ++ l6) ++ l7) (0 : Int) (
 (k false)) (
 (G_impl_DmaRead s3 n n1 (((ByteArray.size s1) : Nat) : Int) fun n24 n25 s19 s20 =>
 (G_spec_DmaRead s3 n n1 (((ByteArray.size s1) : Nat) : Int) fun n26 n27 s21 s22 =>
 (oK (cond (n24 == n26)
 (cond (decide ((s19 = s21)))
 (cond (!b16)
 (some true)
 (cond (n24 != (0 : Int))
 (some true)
 (some (decide ((s19 = s1))))))
 (some false))
 (some false)) fun j6 =>
 (k j6))))))
 none)
 none)))))))))
theorem ea_e_laws_FnDma_r (N : Nat) (G_spec_DmaRead : ∀ {R : Type} (s : ByteArray) (n : Int) (n1 : Int) (n2 : Int) (k : Int → Int → ByteArray → ByteArray → Option R), Option R) (G_impl_DmaRead : ∀ {R : Type} (s : ByteArray) (n : Int) (n1 : Int) (n2 : Int) (k : Int → Int → ByteArray → ByteArray → Option R), Option R) (G_laws_lwFrame : ∀ {R : Type} (s : ByteArray) (n : Int) (k : ByteArray → Option R), Option R) (G_laws_lwHas_r : ∀ {R : Type} (b : Bool) (n : Int) (l : List Int) (k : Bool → Option R), Option R) (G_spec_Walk : ∀ {R : Type} (s : ByteArray) (n : Int) (n1 : Int) (n2 : Int) (b : Bool) (k : Int → Int → Int → Bool → Bool → ByteArray → (List Int) → Option R), Option R) (G_impl_DmaWrite : ∀ {R : Type} (s : ByteArray) (n : Int) (n1 : Int) (s1 : ByteArray) (k : Int → Int → ByteArray → Option R), Option R) (G_spec_DmaWrite : ∀ {R : Type} (s : ByteArray) (n : Int) (n1 : Int) (s1 : ByteArray) (k : Int → Int → ByteArray → Option R), Option R) (G_spec_DrawDmaWrite_r : ∀ {R : Type} (b : Bool) (l : List Int) (k : ByteArray → Int → Int → ByteArray → Option R), Option R) {R : Type} (b : Bool) (l : List Int) (K : AV → Hp E → Option R) :
    runFnI (E := E) (OA_laws_FnDma_r N G_spec_DmaRead G_impl_DmaRead G_laws_lwFrame G_laws_lwHas_r G_spec_Walk G_impl_DmaWrite G_spec_DmaWrite G_spec_DrawDmaWrite_r) (IT_laws_FnDma_r_4 N) sl_laws_FnDma_r J_laws_FnDma_r Try.f6 [(AV.sc (SV.slc 0 none b))] [(some (HE.mk true (HB.rows (B.u8 l))))] K =
      ga_g_laws_FnDma_r N G_spec_DmaRead G_impl_DmaRead G_laws_lwFrame G_laws_lwHas_r G_spec_Walk G_impl_DmaWrite G_spec_DmaWrite G_spec_DrawDmaWrite_r b l (fun b20 => K (AV.sc (SV.bool b20)) [(some (HE.mk true (HB.rows (B.u8 l))))]) := by kernel_rfl
theorem e_laws_FnDma_r (N : Nat) {R : Type} (b : Bool) (l : List Int) (K : AV → Hp E → Option R) :
    runFnI (E := E) (O_laws_FnDma_r N) (IT_laws_FnDma_r_4 N) sl_laws_FnDma_r J_laws_FnDma_r Try.f6 [(AV.sc (SV.slc 0 none b))] [(some (HE.mk true (HB.rows (B.u8 l))))] K =
      g_laws_FnDma_r N b l (fun b20 => K (AV.sc (SV.bool b20)) [(some (HE.mk true (HB.rows (B.u8 l))))]) := castPr (by kernel_rfl) (ea_e_laws_FnDma_r N (g_spec_DmaRead N) (g_impl_DmaRead N) (g_laws_lwFrame N) (g_laws_lwHas_r N) (g_spec_Walk N) (g_impl_DmaWrite N) (g_spec_DmaWrite N) (g_spec_DrawDmaWrite_r N) b l K)
noncomputable def o_laws_FnDma_r (N : Nat) {R : Type} (args : List AV) (H : Hp E) (K : AV → Hp E → Option R) : Option R :=
 match args, H with
 | [(AV.sc (SV.slc 0 none b))], [(some (HE.mk true (HB.rows (B.u8 l))))] => g_laws_FnDma_r N b l (fun b20 => K (AV.sc (SV.bool b20)) [(some (HE.mk true (HB.rows (B.u8 l))))])
 | _, _ => none
theorem o_laws_FnDma_r_ok (N : Nat) : FnOk E 6 (o_laws_FnDma_r N) := by
  intro R args H K r h
  unfold o_laws_FnDma_r at h
  dsimp only at h
  split at h
  · exact fnB_ok (ids := [4, 2, 0]) (top := [0, 2, 4]) ok (O_laws_FnDma_r_ok N) (jn_ok _ _ _) Try.func6 (by kernel_rfl) (IT := IT_laws_FnDma_r_4 N) (sl := sl_laws_FnDma_r) (J := J_laws_FnDma_r) (K := K) (H := [(some (HE.mk true (HB.rows (B.u8 _))))]) (IT_laws_FnDma_r_4_ok N) (by kernel_rfl) rfl ((e_laws_FnDma_r N _ _ K).trans h)
  · cases h
end Go.Sa
