import Derived.Test.YtflmjaehnbnjnaaSpec
import Derived.Test.YtflmjaehnbnjnaaPLb
import Derived.Test.YtflmjaehnbnjnaaW8
set_option linter.all false
namespace Go.Sa
open Go Go.Eng Go.Proofs
set_option maxRecDepth 100000
set_option maxHeartbeats 4000000
/-! ### loop.example/g00038/laws.FnTwoWalks -/
abbrev sl_laws_FnTwoWalks_r : SlotT := [(0, ([3, 4, 5, 6, 7, 8, 9, 10], [3, 4, 5, 6, 7, 8, 9]))]
abbrev J_laws_FnTwoWalks_r : JT := jn [(4, [(40, .b)]), (17, [(105, .b)]), (19, [(113, .b)]), (20, [(2, .b)]), (21, [(2, .b)])] [] []
noncomputable def O_laws_FnTwoWalks_r (N : Nat) : Orc E := addFn 13 (o_spec_WalkTwo N) (addFn 12 (o_impl_WalkTwo N) (addFn 11 (o_spec_MapPages_ww N) (addFn 9 (o_spec_Walk N) (addFn 10 (o_spec_MemFault N) (addFn 7 (o_spec_DrawWalk_r N) (noFn))))))
noncomputable def pa_laws_FnTwoWalks_r__o_spec_WalkTwo (N : Nat) (G_spec_WalkTwo : ∀ {R : Type} (s : ByteArray) (n : Int) (n1 : Int) (n2 : Int) (n3 : Int) (b : Bool) (k : Int → Int → Int → Int → ByteArray → Option R), Option R) {R : Type} (args : List AV) (H : Hp E) (K : AV → Hp E → Option R) : Option R :=
 match args, H with
 | [(AV.sc (SV.str s)), (AV.sc (SV.int IntKind.i64 n)), (AV.sc (SV.int IntKind.i64 n1)), (AV.sc (SV.int IntKind.i64 n2)), (AV.sc (SV.int IntKind.i64 n3)), (AV.sc (SV.bool b))], [] => G_spec_WalkTwo s n n1 n2 n3 b (fun n31 n32 n33 n34 s11 => K (AV.agg [(SV.int IntKind.i64 n31), (SV.int IntKind.i64 n32), (SV.int IntKind.i64 n33), (SV.int IntKind.i64 n34), (SV.str s11)]) [])
 | _, _ => none
noncomputable def pa_laws_FnTwoWalks_r__o_impl_WalkTwo (N : Nat) (G_impl_WalkTwo : ∀ {R : Type} (s : ByteArray) (n : Int) (n1 : Int) (n2 : Int) (n3 : Int) (b : Bool) (k : Int → Int → Int → Int → ByteArray → Option R), Option R) {R : Type} (args : List AV) (H : Hp E) (K : AV → Hp E → Option R) : Option R :=
 match args, H with
 | [(AV.sc (SV.str s)), (AV.sc (SV.int IntKind.i64 n)), (AV.sc (SV.int IntKind.i64 n1)), (AV.sc (SV.int IntKind.i64 n2)), (AV.sc (SV.int IntKind.i64 n3)), (AV.sc (SV.bool b))], [] => G_impl_WalkTwo s n n1 n2 n3 b (fun n9 n10 n11 n12 s1 => K (AV.agg [(SV.int IntKind.i64 n9), (SV.int IntKind.i64 n10), (SV.int IntKind.i64 n11), (SV.int IntKind.i64 n12), (SV.str s1)]) [])
 | _, _ => none
noncomputable def pa_laws_FnTwoWalks_r__o_spec_MapPages_ww (N : Nat) (G_spec_MapPages_ww : ∀ {R : Type} (s : ByteArray) (n : Int) (b : Bool) (b1 : Bool) (l : List PageMap) (l1 : List Int) (k : Int → Int → ByteArray → Bool → (List PageMap) → (List Int) → (List Int) → Option R) (k_1 : ByteArray → Nat → Nat → Nat → Bool → (List PageMap) → (List Int) → (List Int) → Option R), Option R) {R : Type} (args : List AV) (H : Hp E) (K : AV → Hp E → Option R) : Option R :=
 match args, H with
 | [(AV.sc (SV.str s)), (AV.sc (SV.int IntKind.i64 n)), (AV.sc (SV.slc 0 none b)), (AV.sc (SV.slc 1 none b1))], [(some (HE.mk false (HB.rows (B.iPageMap l)))), (some (HE.mk false (HB.rows (B.i64 l1))))] => G_spec_MapPages_ww s n b b1 l l1 (fun n25 n26 s16 b17 l21 l22 l23 => K (AV.agg [(SV.int IntKind.i64 n25), (SV.int IntKind.i64 n26), (SV.str s16), (SV.slc 2 none b17)]) [(some (HE.mk false (HB.rows (B.iPageMap l21)))), (some (HE.mk false (HB.rows (B.i64 l22)))), (some (HE.mk false (HB.rows (B.i64 l23))))]) (fun s17 m16 m17 m18 b18 l24 l25 l26 => K (AV.agg [(SV.int IntKind.i64 (0 : Int)), (SV.int IntKind.i64 (0 : Int)), (SV.str s17), (SV.slc 2 (some (m16, (m17, m18))) b18)]) [(some (HE.mk false (HB.rows (B.iPageMap l24)))), (some (HE.mk false (HB.rows (B.i64 l25)))), (some (HE.mk false (HB.rows (B.i64 l26))))])
 | _, _ => none
noncomputable def pa_laws_FnTwoWalks_r__o_spec_Walk (N : Nat) (G_spec_Walk : ∀ {R : Type} (s : ByteArray) (n : Int) (n1 : Int) (n2 : Int) (b : Bool) (k : Int → Int → Int → Bool → Bool → ByteArray → (List Int) → Option R), Option R) {R : Type} (args : List AV) (H : Hp E) (K : AV → Hp E → Option R) : Option R :=
 match args, H with
 | [(AV.sc (SV.str s)), (AV.sc (SV.int IntKind.i64 n)), (AV.sc (SV.int IntKind.i64 n1)), (AV.sc (SV.int IntKind.i64 n2)), (AV.sc (SV.bool b))], [] => G_spec_Walk s n n1 n2 b (fun n6 n7 n8 b6 b7 s3 l => K (AV.agg [(SV.int IntKind.i64 n6), (SV.int IntKind.i64 n7), (SV.int IntKind.i64 n8), (SV.bool b6), (SV.slc 0 none b7), (SV.str s3)]) [(some (HE.mk false (HB.rows (B.i64 l))))])
 | _, _ => none
noncomputable def pa_laws_FnTwoWalks_r__o_spec_MemFault (N : Nat) (G_spec_MemFault : ∀ {R : Type} (s : ByteArray) (k : Int → Option R), Option R) {R : Type} (args : List AV) (H : Hp E) (K : AV → Hp E → Option R) : Option R :=
 match args, H with
 | [(AV.sc (SV.str s))], [] => G_spec_MemFault s (fun n => K (AV.sc (SV.int IntKind.i64 n)) [])
 | _, _ => none
noncomputable def pa_laws_FnTwoWalks_r__o_spec_DrawWalk_r (N : Nat) (G_spec_DrawWalk_r : ∀ {R : Type} (b : Bool) (l : List Int) (k : ByteArray → Int → Int → Int → Bool → Option R), Option R) {R : Type} (args : List AV) (H : Hp E) (K : AV → Hp E → Option R) : Option R :=
 match args, H with
 | [(AV.sc (SV.slc 0 none b))], [(some (HE.mk true (HB.rows (B.u8 l))))] => G_spec_DrawWalk_r b l (fun s2 n53 n54 n55 b12 => K (AV.tup [(false, [(SV.str s2)]), (false, [(SV.int IntKind.i64 n53)]), (false, [(SV.int IntKind.i64 n54)]), (false, [(SV.int IntKind.i64 n55)]), (false, [(SV.bool b12)])]) [(some (HE.mk true (HB.rows (B.u8 l))))])
 | _, _ => none
noncomputable def OA_laws_FnTwoWalks_r (N : Nat) (G_spec_WalkTwo : ∀ {R : Type} (s : ByteArray) (n : Int) (n1 : Int) (n2 : Int) (n3 : Int) (b : Bool) (k : Int → Int → Int → Int → ByteArray → Option R), Option R) (G_impl_WalkTwo : ∀ {R : Type} (s : ByteArray) (n : Int) (n1 : Int) (n2 : Int) (n3 : Int) (b : Bool) (k : Int → Int → Int → Int → ByteArray → Option R), Option R) (G_spec_MapPages_ww : ∀ {R : Type} (s : ByteArray) (n : Int) (b : Bool) (b1 : Bool) (l : List PageMap) (l1 : List Int) (k : Int → Int → ByteArray → Bool → (List PageMap) → (List Int) → (List Int) → Option R) (k_1 : ByteArray → Nat → Nat → Nat → Bool → (List PageMap) → (List Int) → (List Int) → Option R), Option R) (G_spec_Walk : ∀ {R : Type} (s : ByteArray) (n : Int) (n1 : Int) (n2 : Int) (b : Bool) (k : Int → Int → Int → Bool → Bool → ByteArray → (List Int) → Option R), Option R) (G_spec_MemFault : ∀ {R : Type} (s : ByteArray) (k : Int → Option R), Option R) (G_spec_DrawWalk_r : ∀ {R : Type} (b : Bool) (l : List Int) (k : ByteArray → Int → Int → Int → Bool → Option R), Option R) : Orc E := addFn 13 (pa_laws_FnTwoWalks_r__o_spec_WalkTwo N G_spec_WalkTwo) (addFn 12 (pa_laws_FnTwoWalks_r__o_impl_WalkTwo N G_impl_WalkTwo) (addFn 11 (pa_laws_FnTwoWalks_r__o_spec_MapPages_ww N G_spec_MapPages_ww) (addFn 9 (pa_laws_FnTwoWalks_r__o_spec_Walk N G_spec_Walk) (addFn 10 (pa_laws_FnTwoWalks_r__o_spec_MemFault N G_spec_MemFault) (addFn 7 (pa_laws_FnTwoWalks_r__o_spec_DrawWalk_r N G_spec_DrawWalk_r) (noFn))))))
theorem O_laws_FnTwoWalks_r_ok (N : Nat) : OrcOk (O_laws_FnTwoWalks_r N) := addFn_ok (o_spec_WalkTwo_ok N) (addFn_ok (o_impl_WalkTwo_ok N) (addFn_ok (o_spec_MapPages_ww_ok N) (addFn_ok (o_spec_Walk_ok N) (addFn_ok (o_spec_MemFault_ok N) (addFn_ok (o_spec_DrawWalk_r_ok N) (noFn_ok))))))
noncomputable def s_laws_FnTwoWalks_r_0 (N : Nat) {R : Type} (s2 : ByteArray) (n7 : Int) (n8 : Int) (n9 : Int) (b4 : Bool) (l2 : List Int) (n11 : Int) (n12 : Int) (n13 : Int) (b6 : Bool) (b7 : Bool) (s3 : ByteArray) (l3 : List Int) (b5 : Bool) (n10 : Int) (l4 : List PageMap) (ag : Bool → Int → (List PageMap) → Option R)  (kN : Bool → (List PageMap) → Option R) : Option R :=
 (cond (decide ((n10 < (IntKind.wrap IntKind.i64 (Int.tdiv (((ByteArray.size s2) : Nat) : Int) (256 : Int))))))
 (cond (Go.Eng.roomOk ((List.length l4) + (List.length [(PageMap.mk (IntKind.wrap IntKind.i64 (n10 * (256 : Int))) (IntKind.wrap IntKind.i64 ((8 : Int) + n10)) (6 : Int) false)])) 32)
 (ag (cond (Nat.beq (List.length [(PageMap.mk (IntKind.wrap IntKind.i64 (n10 * (256 : Int))) (IntKind.wrap IntKind.i64 ((8 : Int) + n10)) (6 : Int) false)]) 0) b5 false) (IntKind.wrap IntKind.i64 (n10 + (1 : Int))) (l4 ++ [(PageMap.mk (IntKind.wrap IntKind.i64 (n10 * (256 : Int))) (IntKind.wrap IntKind.i64 ((8 : Int) + n10)) (6 : Int) false)]))
 none)
 (kN b5 l4))
noncomputable def ga_s_laws_FnTwoWalks_r_0 (N : Nat) (G_spec_WalkTwo : ∀ {R : Type} (s : ByteArray) (n : Int) (n1 : Int) (n2 : Int) (n3 : Int) (b : Bool) (k : Int → Int → Int → Int → ByteArray → Option R), Option R) (G_impl_WalkTwo : ∀ {R : Type} (s : ByteArray) (n : Int) (n1 : Int) (n2 : Int) (n3 : Int) (b : Bool) (k : Int → Int → Int → Int → ByteArray → Option R), Option R) (G_spec_MapPages_ww : ∀ {R : Type} (s : ByteArray) (n : Int) (b : Bool) (b1 : Bool) (l : List PageMap) (l1 : List Int) (k : Int → Int → ByteArray → Bool → (List PageMap) → (List Int) → (List Int) → Option R) (k_1 : ByteArray → Nat → Nat → Nat → Bool → (List PageMap) → (List Int) → (List Int) → Option R), Option R) (G_spec_Walk : ∀ {R : Type} (s : ByteArray) (n : Int) (n1 : Int) (n2 : Int) (b : Bool) (k : Int → Int → Int → Bool → Bool → ByteArray → (List Int) → Option R), Option R) (G_spec_MemFault : ∀ {R : Type} (s : ByteArray) (k : Int → Option R), Option R) (G_spec_DrawWalk_r : ∀ {R : Type} (b : Bool) (l : List Int) (k : ByteArray → Int → Int → Int → Bool → Option R), Option R) {R : Type} (s2 : ByteArray) (n7 : Int) (n8 : Int) (n9 : Int) (b4 : Bool) (l2 : List Int) (n11 : Int) (n12 : Int) (n13 : Int) (b6 : Bool) (b7 : Bool) (s3 : ByteArray) (l3 : List Int) (b5 : Bool) (n10 : Int) (l4 : List PageMap) (ag : Bool → Int → (List PageMap) → Option R)  (kN : Bool → (List PageMap) → Option R) : Option R :=
 (cond (decide ((n10 < (IntKind.wrap IntKind.i64 (Int.tdiv (((ByteArray.size s2) : Nat) : Int) (256 : Int))))))
 (cond (Go.Eng.roomOk ((List.length l4) + (List.length [(PageMap.mk (IntKind.wrap IntKind.i64 (n10 * (256 : Int))) (IntKind.wrap IntKind.i64 ((8 : Int) + n10)) (6 : Int) false)])) 32)
 (ag (cond (Nat.beq (List.length [(PageMap.mk (IntKind.wrap IntKind.i64 (n10 * (256 : Int))) (IntKind.wrap IntKind.i64 ((8 : Int) + n10)) (6 : Int) false)]) 0) b5 false) (IntKind.wrap IntKind.i64 (n10 + (1 : Int))) (l4 ++ [(PageMap.mk (IntKind.wrap IntKind.i64 (n10 * (256 : Int))) (IntKind.wrap IntKind.i64 ((8 : Int) + n10)) (6 : Int) false)]))
 none)
 (kN b5 l4))
noncomputable def l_laws_FnTwoWalks_r_0 (N : Nat) {R : Type} (s2 : ByteArray) (n7 : Int) (n8 : Int) (n9 : Int) (b4 : Bool) (l2 : List Int) (n11 : Int) (n12 : Int) (n13 : Int) (b6 : Bool) (b7 : Bool) (s3 : ByteArray) (l3 : List Int) (kN : Bool → (List PageMap) → Option R) : Nat → Bool → Int → (List PageMap) → Option R
 | 0, _, _, _ => none
 | f + 1, b5, n10, l4 => s_laws_FnTwoWalks_r_0 N s2 n7 n8 n9 b4 l2 n11 n12 n13 b6 b7 s3 l3 b5 n10 l4 (fun b5 n10 l4 => l_laws_FnTwoWalks_r_0 N s2 n7 n8 n9 b4 l2 n11 n12 n13 b6 b7 s3 l3 kN f b5 n10 l4)  kN
noncomputable def c_laws_FnTwoWalks_r_0 (N : Nat) {R : Type} (s2 : ByteArray) (n7 : Int) (n8 : Int) (n9 : Int) (b4 : Bool) (l2 : List Int) (n11 : Int) (n12 : Int) (n13 : Int) (b6 : Bool) (b7 : Bool) (s3 : ByteArray) (l3 : List Int) (b5 : Bool) (n10 : Int) (l4 : List PageMap) (kN : Bool → (List PageMap) → Option R) : Option R := l_laws_FnTwoWalks_r_0 N s2 n7 n8 n9 b4 l2 n11 n12 n13 b6 b7 s3 l3 kN N b5 n10 l4
theorem ea_se_laws_FnTwoWalks_r_0 (N : Nat) (G_spec_WalkTwo : ∀ {R : Type} (s : ByteArray) (n : Int) (n1 : Int) (n2 : Int) (n3 : Int) (b : Bool) (k : Int → Int → Int → Int → ByteArray → Option R), Option R) (G_impl_WalkTwo : ∀ {R : Type} (s : ByteArray) (n : Int) (n1 : Int) (n2 : Int) (n3 : Int) (b : Bool) (k : Int → Int → Int → Int → ByteArray → Option R), Option R) (G_spec_MapPages_ww : ∀ {R : Type} (s : ByteArray) (n : Int) (b : Bool) (b1 : Bool) (l : List PageMap) (l1 : List Int) (k : Int → Int → ByteArray → Bool → (List PageMap) → (List Int) → (List Int) → Option R) (k_1 : ByteArray → Nat → Nat → Nat → Bool → (List PageMap) → (List Int) → (List Int) → Option R), Option R) (G_spec_Walk : ∀ {R : Type} (s : ByteArray) (n : Int) (n1 : Int) (n2 : Int) (b : Bool) (k : Int → Int → Int → Bool → Bool → ByteArray → (List Int) → Option R), Option R) (G_spec_MemFault : ∀ {R : Type} (s : ByteArray) (k : Int → Option R), Option R) (G_spec_DrawWalk_r : ∀ {R : Type} (b : Bool) (l : List Int) (k : ByteArray → Int → Int → Int → Bool → Option R), Option R) {R : Type} (s2 : ByteArray) (n7 : Int) (n8 : Int) (n9 : Int) (b4 : Bool) (l2 : List Int) (n11 : Int) (n12 : Int) (n13 : Int) (b6 : Bool) (b7 : Bool) (s3 : ByteArray) (l3 : List Int) (b5 : Bool) (n10 : Int) (l4 : List PageMap) (AG : List (Option AV) → Hp E → Option R) (KL : Ex → List (Option AV) → Hp E → Option R) :
    iterStep (E := E) (OA_laws_FnTwoWalks_r N G_spec_WalkTwo G_impl_WalkTwo G_spec_MapPages_ww G_spec_Walk G_spec_MemFault G_spec_DrawWalk_r) (fun {R} => LI (noIt) 1 153 sl_laws_FnTwoWalks_r (R := R)) J_laws_FnTwoWalks_r 1 153 0 [3, 4, 5, 6, 7, 8, 9, 10] [3, 4, 5, 6, 7, 8, 9] (body Try.f4 0) AG KL [(some (AV.sc (SV.str s2))), (some (AV.sc (SV.int IntKind.i64 n7))), (some (AV.sc (SV.int IntKind.i64 n8))), (some (AV.sc (SV.int IntKind.i64 n9))), (some (AV.sc (SV.bool b4))), (some (AV.sc (SV.ptr 1 0 0))), (some (AV.sc (SV.slc 3 none b5))), (some (AV.sc (SV.int IntKind.i64 n10)))] [(some (HE.mk true (HB.rows (B.u8 l2)))), (some (HE.mk false (HB.exp none [(SV.int IntKind.i64 n11), (SV.int IntKind.i64 n12), (SV.int IntKind.i64 n13), (SV.bool b6), (SV.slc 2 none b7), (SV.str s3)]))), (some (HE.mk false (HB.rows (B.i64 l3)))), (some (HE.mk false (HB.rows (B.iPageMap l4))))] =
      ga_s_laws_FnTwoWalks_r_0 N G_spec_WalkTwo G_impl_WalkTwo G_spec_MapPages_ww G_spec_Walk G_spec_MemFault G_spec_DrawWalk_r s2 n7 n8 n9 b4 l2 n11 n12 n13 b6 b7 s3 l3 b5 n10 l4 (fun b5 n10 l4 => AG [(some (AV.sc (SV.str s2))), (some (AV.sc (SV.int IntKind.i64 n7))), (some (AV.sc (SV.int IntKind.i64 n8))), (some (AV.sc (SV.int IntKind.i64 n9))), (some (AV.sc (SV.bool b4))), (some (AV.sc (SV.ptr 1 0 0))), (some (AV.sc (SV.slc 3 none b5))), (some (AV.sc (SV.int IntKind.i64 n10)))] [(some (HE.mk true (HB.rows (B.u8 l2)))), (some (HE.mk false (HB.exp none [(SV.int IntKind.i64 n11), (SV.int IntKind.i64 n12), (SV.int IntKind.i64 n13), (SV.bool b6), (SV.slc 2 none b7), (SV.str s3)]))), (some (HE.mk false (HB.rows (B.i64 l3)))), (some (HE.mk false (HB.rows (B.iPageMap l4))))])  (fun b12 l12 => KL Ex.normal [(some (AV.sc (SV.str s2))), (some (AV.sc (SV.int IntKind.i64 n7))), (some (AV.sc (SV.int IntKind.i64 n8))), (some (AV.sc (SV.int IntKind.i64 n9))), (some (AV.sc (SV.bool b4))), (some (AV.sc (SV.ptr 1 0 0))), (some (AV.sc (SV.slc 3 none b12)))] [(some (HE.mk true (HB.rows (B.u8 l2)))), (some (HE.mk false (HB.exp none [(SV.int IntKind.i64 n11), (SV.int IntKind.i64 n12), (SV.int IntKind.i64 n13), (SV.bool b6), (SV.slc 2 none b7), (SV.str s3)]))), (some (HE.mk false (HB.rows (B.i64 l3)))), (some (HE.mk false (HB.rows (B.iPageMap l12))))]) := by kernel_rfl
theorem se_laws_FnTwoWalks_r_0 (N : Nat) {R : Type} (s2 : ByteArray) (n7 : Int) (n8 : Int) (n9 : Int) (b4 : Bool) (l2 : List Int) (n11 : Int) (n12 : Int) (n13 : Int) (b6 : Bool) (b7 : Bool) (s3 : ByteArray) (l3 : List Int) (b5 : Bool) (n10 : Int) (l4 : List PageMap) (AG : List (Option AV) → Hp E → Option R) (KL : Ex → List (Option AV) → Hp E → Option R) :
    iterStep (E := E) (O_laws_FnTwoWalks_r N) (fun {R} => LI (noIt) 1 153 sl_laws_FnTwoWalks_r (R := R)) J_laws_FnTwoWalks_r 1 153 0 [3, 4, 5, 6, 7, 8, 9, 10] [3, 4, 5, 6, 7, 8, 9] (body Try.f4 0) AG KL [(some (AV.sc (SV.str s2))), (some (AV.sc (SV.int IntKind.i64 n7))), (some (AV.sc (SV.int IntKind.i64 n8))), (some (AV.sc (SV.int IntKind.i64 n9))), (some (AV.sc (SV.bool b4))), (some (AV.sc (SV.ptr 1 0 0))), (some (AV.sc (SV.slc 3 none b5))), (some (AV.sc (SV.int IntKind.i64 n10)))] [(some (HE.mk true (HB.rows (B.u8 l2)))), (some (HE.mk false (HB.exp none [(SV.int IntKind.i64 n11), (SV.int IntKind.i64 n12), (SV.int IntKind.i64 n13), (SV.bool b6), (SV.slc 2 none b7), (SV.str s3)]))), (some (HE.mk false (HB.rows (B.i64 l3)))), (some (HE.mk false (HB.rows (B.iPageMap l4))))] =
      s_laws_FnTwoWalks_r_0 N s2 n7 n8 n9 b4 l2 n11 n12 n13 b6 b7 s3 l3 b5 n10 l4 (fun b5 n10 l4 => AG [(some (AV.sc (SV.str s2))), (some (AV.sc (SV.int IntKind.i64 n7))), (some (AV.sc (SV.int IntKind.i64 n8))), (some (AV.sc (SV.int IntKind.i64 n9))), (some (AV.sc (SV.bool b4))), (some (AV.sc (SV.ptr 1 0 0))), (some (AV.sc (SV.slc 3 none b5))), (some (AV.sc (SV.int IntKind.i64 n10)))] [(some (HE.mk true (HB.rows (B.u8 l2)))), (some (HE.mk false (HB.exp none [(SV.int IntKind.i64 n11), (SV.int IntKind.i64 n12), (SV.int IntKind.i64 n13), (SV.bool b6), (SV.slc 2 none b7), (SV.str s3)]))), (some (HE.mk false (HB.rows (B.i64 l3)))), (some (HE.mk false (HB.rows (B.iPageMap l4))))])  (fun b12 l12 => KL Ex.normal [(some (AV.sc (SV.str s2))), (some (AV.sc (SV.int IntKind.i64 n7))), (some (AV.sc (SV.int IntKind.i64 n8))), (some (AV.sc (SV.int IntKind.i64 n9))), (some (AV.sc (SV.bool b4))), (some (AV.sc (SV.ptr 1 0 0))), (some (AV.sc (SV.slc 3 none b12)))] [(some (HE.mk true (HB.rows (B.u8 l2)))), (some (HE.mk false (HB.exp none [(SV.int IntKind.i64 n11), (SV.int IntKind.i64 n12), (SV.int IntKind.i64 n13), (SV.bool b6), (SV.slc 2 none b7), (SV.str s3)]))), (some (HE.mk false (HB.rows (B.i64 l3)))), (some (HE.mk false (HB.rows (B.iPageMap l12))))]) := castPr (by kernel_rfl) (ea_se_laws_FnTwoWalks_r_0 N (g_spec_WalkTwo N) (g_impl_WalkTwo N) (g_spec_MapPages_ww N) (g_spec_Walk N) (g_spec_MemFault N) (g_spec_DrawWalk_r N) s2 n7 n8 n9 b4 l2 n11 n12 n13 b6 b7 s3 l3 b5 n10 l4 AG KL)
theorem le_laws_FnTwoWalks_r_0 (N : Nat) {R : Type} (s2 : ByteArray) (n7 : Int) (n8 : Int) (n9 : Int) (b4 : Bool) (l2 : List Int) (n11 : Int) (n12 : Int) (n13 : Int) (b6 : Bool) (b7 : Bool) (s3 : ByteArray) (l3 : List Int) (KL : Ex → List (Option AV) → Hp E → Option R) : ∀ (f : Nat), ∀ (b5 : Bool) (n10 : Int) (l4 : List PageMap), iterK (E := E) (O_laws_FnTwoWalks_r N) (fun {R} => LI (noIt) 1 153 sl_laws_FnTwoWalks_r (R := R)) J_laws_FnTwoWalks_r 1 153 0 [3, 4, 5, 6, 7, 8, 9, 10] [3, 4, 5, 6, 7, 8, 9] (body Try.f4 0) f [(some (AV.sc (SV.str s2))), (some (AV.sc (SV.int IntKind.i64 n7))), (some (AV.sc (SV.int IntKind.i64 n8))), (some (AV.sc (SV.int IntKind.i64 n9))), (some (AV.sc (SV.bool b4))), (some (AV.sc (SV.ptr 1 0 0))), (some (AV.sc (SV.slc 3 none b5))), (some (AV.sc (SV.int IntKind.i64 n10)))] [(some (HE.mk true (HB.rows (B.u8 l2)))), (some (HE.mk false (HB.exp none [(SV.int IntKind.i64 n11), (SV.int IntKind.i64 n12), (SV.int IntKind.i64 n13), (SV.bool b6), (SV.slc 2 none b7), (SV.str s3)]))), (some (HE.mk false (HB.rows (B.i64 l3)))), (some (HE.mk false (HB.rows (B.iPageMap l4))))] KL = l_laws_FnTwoWalks_r_0 N s2 n7 n8 n9 b4 l2 n11 n12 n13 b6 b7 s3 l3 (fun b12 l12 => KL Ex.normal [(some (AV.sc (SV.str s2))), (some (AV.sc (SV.int IntKind.i64 n7))), (some (AV.sc (SV.int IntKind.i64 n8))), (some (AV.sc (SV.int IntKind.i64 n9))), (some (AV.sc (SV.bool b4))), (some (AV.sc (SV.ptr 1 0 0))), (some (AV.sc (SV.slc 3 none b12)))] [(some (HE.mk true (HB.rows (B.u8 l2)))), (some (HE.mk false (HB.exp none [(SV.int IntKind.i64 n11), (SV.int IntKind.i64 n12), (SV.int IntKind.i64 n13), (SV.bool b6), (SV.slc 2 none b7), (SV.str s3)]))), (some (HE.mk false (HB.rows (B.i64 l3)))), (some (HE.mk false (HB.rows (B.iPageMap l12))))]) f b5 n10 l4 := by
  intro f
  induction f with
  | zero => intros; rfl
  | succ f ih =>
    intro b5 n10 l4
    rw [iterK_succ, se_laws_FnTwoWalks_r_0]
    exact (congrArg (fun z0 => s_laws_FnTwoWalks_r_0 N s2 n7 n8 n9 b4 l2 n11 n12 n13 b6 b7 s3 l3 b5 n10 l4 z0 (fun b12 l12 => KL Ex.normal [(some (AV.sc (SV.str s2))), (some (AV.sc (SV.int IntKind.i64 n7))), (some (AV.sc (SV.int IntKind.i64 n8))), (some (AV.sc (SV.int IntKind.i64 n9))), (some (AV.sc (SV.bool b4))), (some (AV.sc (SV.ptr 1 0 0))), (some (AV.sc (SV.slc 3 none b12)))] [(some (HE.mk true (HB.rows (B.u8 l2)))), (some (HE.mk false (HB.exp none [(SV.int IntKind.i64 n11), (SV.int IntKind.i64 n12), (SV.int IntKind.i64 n13), (SV.bool b6), (SV.slc 2 none b7), (SV.str s3)]))), (some (HE.mk false (HB.rows (B.i64 l3)))), (some (HE.mk false (HB.rows (B.iPageMap l12))))])) (funext fun b5 => funext fun n10 => funext fun l4 => ih b5 n10 l4))
noncomputable def i_laws_FnTwoWalks_r_0 (N : Nat) {R : Type} (vs : List (Option AV)) (H : Hp E) (KL : Ex → List (Option AV) → Hp E → Option R) : Option R :=
 match vs, H with
 | [(some (AV.sc (SV.str s2))), (some (AV.sc (SV.int IntKind.i64 n7))), (some (AV.sc (SV.int IntKind.i64 n8))), (some (AV.sc (SV.int IntKind.i64 n9))), (some (AV.sc (SV.bool b4))), (some (AV.sc (SV.ptr 1 0 0))), (some (AV.sc (SV.slc 3 none b5))), (some (AV.sc (SV.int IntKind.i64 n10)))], [(some (HE.mk true (HB.rows (B.u8 l2)))), (some (HE.mk false (HB.exp none [(SV.int IntKind.i64 n11), (SV.int IntKind.i64 n12), (SV.int IntKind.i64 n13), (SV.bool b6), (SV.slc 2 none b7), (SV.str s3)]))), (some (HE.mk false (HB.rows (B.i64 l3)))), (some (HE.mk false (HB.rows (B.iPageMap l4))))] => c_laws_FnTwoWalks_r_0 N s2 n7 n8 n9 b4 l2 n11 n12 n13 b6 b7 s3 l3 b5 n10 l4 (fun b13 l13 => KL Ex.normal [(some (AV.sc (SV.str s2))), (some (AV.sc (SV.int IntKind.i64 n7))), (some (AV.sc (SV.int IntKind.i64 n8))), (some (AV.sc (SV.int IntKind.i64 n9))), (some (AV.sc (SV.bool b4))), (some (AV.sc (SV.ptr 1 0 0))), (some (AV.sc (SV.slc 3 none b13)))] [(some (HE.mk true (HB.rows (B.u8 l2)))), (some (HE.mk false (HB.exp none [(SV.int IntKind.i64 n11), (SV.int IntKind.i64 n12), (SV.int IntKind.i64 n13), (SV.bool b6), (SV.slc 2 none b7), (SV.str s3)]))), (some (HE.mk false (HB.rows (B.i64 l3)))), (some (HE.mk false (HB.rows (B.iPageMap l13))))])
 | _, _ => none
noncomputable def IT_laws_FnTwoWalks_r_0 (N : Nat) : Its E := addIt 0 (i_laws_FnTwoWalks_r_0 N) (noIt)
theorem IT_laws_FnTwoWalks_r_0_ok (N : Nat) : ItOk (IT_laws_FnTwoWalks_r_0 N) 1 153 sl_laws_FnTwoWalks_r (lsB Try.f4 [0]) :=
  addItB_ok (inner := []) ok (O_laws_FnTwoWalks_r_ok N) (jn_ok _ _ _) (noIt_ok) rfl (by kernel_rfl) rfl fun vs H KL r h => by
    unfold i_laws_FnTwoWalks_r_0 at h
    split at h
    · exact ⟨_, (le_laws_FnTwoWalks_r_0 N _ _ _ _ _ _ _ _ _ _ _ _ _ KL N _ _ _).trans h⟩
    · cases h
noncomputable def g_laws_FnTwoWalks_r (N : Nat) {R : Type} (b : Bool) (l : List Int) (k : Bool → Option R) : Option R :=
 (cond (decide (((((List.length l) : Nat) : Int) > (1048576 : Int))))
 (k true)
 (g_spec_DrawWalk_r N b l fun s n n1 n2 b1 =>
 (oK (g_spec_MemFault N s fun n3 =>
 (cond (n3 != (0 : Int))
 (some true)
 (cond (decide (((((ByteArray.size s) : Nat) : Int) > (51200 : Int))))
 (some true)
 (cond (decide ((n < (0 : Int))))
 (some true)
 (some (decide ((n > (255 : Int))))))))) fun j =>
 (cond j
 (k true)
 (g_spec_Walk N s n n1 n2 b1 fun n4 n5 n6 b2 b3 s1 l1 =>
 (c_laws_FnTwoWalks_r_0 N s n n1 n2 b1 l n4 n5 n6 b2 b3 s1 l1 false (0 : Int) [] fun b8 l5 =>
 (cond (Nat.ble (2048 + (ByteArray.size s)) 9223372036854775807)
 (g_spec_MapPages_ww N ((Go.Eng.toBytes (Go.Eng.seg (List.replicate 2048 (0 : Int)) 0 2048)) ++ s) (0 : Int) b8 false l5 [(1 : Int), (2 : Int), (3 : Int), (4 : Int), (5 : Int), (6 : Int), (7 : Int)] (fun n14 n15 s4 b9 l6 l7 l8 =>
 (cond (n14 != (0 : Int))
 (k true)
 (g_impl_WalkTwo N s4 (0 : Int) n n1 n2 b1 fun n16 n17 n18 n19 s5 =>
 (g_spec_WalkTwo N s4 (0 : Int) n n1 n2 b1 fun n20 n21 n22 n23 s6 =>
 (oK (cond (n16 != n20)
 (some true)
 (cond (n18 != n22)
 (some true)
 (some (!(decide ((s5 = s6))))))) fun j1 =>
 (cond j1
 (k false)
 (oK (cond (decide ((s1 = (ByteArray.mk (List.toArray [])))))
 (some true)
 (some (n4 != (0 : Int)))) fun j2 =>
 (cond j2
 (oK (cond (n16 != (0 : Int))
 (some true)
 (cond (decide ((s5 = (ByteArray.mk (List.toArray [])))))
 (some true)
 (some (n4 == (2 : Int))))) fun j3 =>
 (k j3))
 (oK (cond (n16 == (0 : Int))
 (cond (n17 == n5)
 (cond (n18 == (IntKind.wrap IntKind.i64 (n5 + (2048 : Int))))
 (cond ((decide (((2048 : Int) ≤ (((ByteArray.size s5) : Nat) : Int)))) && (decide (((((ByteArray.size s5) : Nat) : Int) ≤ (((ByteArray.size s5) : Nat) : Int)))))
 (some (decide (((ByteArray.extract s5 2048 (Int.toNat (((ByteArray.size s5) : Nat) : Int))) = s1))))
 none)
 (some false))
 (some false))
 (some false)) fun j4 =>
 (k j4)))))))))) (fun s7 m m1 m2 b10 l9 l10 l11 =>
 (g_impl_WalkTwo N s7 (0 : Int) n n1 n2 b1 fun n24 n25 n26 n27 s8 =>
 (g_spec_WalkTwo N s7 (0 : Int) n n1 n2 b1 fun n28 n29 n30 n31 s9 =>
 (oK (cond (n24 != n28)
 (some true)
 (cond (n26 != n30)
 (some true)
 (some (!(decide ((s8 = s9))))))) fun j5 =>
 (cond j5
 (k false)
 (oK (cond (decide ((s1 = (ByteArray.mk (List.toArray [])))))
 (some true)
 (some (n4 != (0 : Int)))) fun j6 =>
 (cond j6
 (oK (cond (n24 != (0 : Int))
 (some true)
 (cond (decide ((s8 = (ByteArray.mk (List.toArray [])))))
 (some true)
 (some (n4 == (2 : Int))))) fun j7 =>
 (k j7))
 (oK (cond (n24 == (0 : Int))
 (cond (n25 == n5)
 (cond (n26 == (IntKind.wrap IntKind.i64 (n5 + (2048 : Int))))
 (cond ((decide (((2048 : Int) ≤ (((ByteArray.size s8) : Nat) : Int)))) && (decide (((((ByteArray.size s8) : Nat) : Int) ≤ (((ByteArray.size s8) : Nat) : Int)))))
 (some (decide (((ByteArray.extract s8 2048 (Int.toNat (((ByteArray.size s8) : Nat) : Int))) = s1))))
 none)
 (some false))
 (some false))
 (some false)) fun j8 =>
 (k j8))))))))))
 none)))))))
noncomputable def ga_g_laws_FnTwoWalks_r (N : Nat) (G_spec_WalkTwo : ∀ {R : Type} (s : ByteArray) (n : Int) (n1 : Int) (n2 : Int) (n3 : Int) (b : Bool) (k : Int → Int → Int → Int → ByteArray → Option R), Option R) (G_impl_WalkTwo : ∀ {R : Type} (s : ByteArray) (n : Int) (n1 : Int) (n2 : Int) (n3 : Int) (b : Bool) (k : Int → Int → Int → Int → ByteArray → Option R), Option R) (G_spec_MapPages_ww : ∀ {R : Type} (s : ByteArray) (n : Int) (b : Bool) (b1 : Bool) (l : List PageMap) (l1 : List Int) (k : Int → Int → ByteArray → Bool → (List PageMap) → (List Int) → (List Int) → Option R) (k_1 : ByteArray → Nat → Nat → Nat → Bool → (List PageMap) → (List Int) → (List Int) → Option R), Option R) (G_spec_Walk : ∀ {R : Type} (s : ByteArray) (n : Int) (n1 : Int) (n2 : Int) (b : Bool) (k : Int → Int → Int → Bool → Bool → ByteArray → (List Int) → Option R), Option R) (G_spec_MemFault : ∀ {R : Type} (s : ByteArray) (k : Int → Option R), Option R) (G_spec_DrawWalk_r : ∀ {R : Type} (b : Bool) (l : List Int) (k : ByteArray → Int → Int → Int → Bool → Option R), Option R) {R : Type} (b : Bool) (l : List Int) (k : Bool → Option R) : Option R :=
 (cond (decide (((((List.length l) : Nat) : Int) > (1048576 : Int))))
 (k true)
 (G_spec_DrawWalk_r b l fun s n n1 n2 b1 =>
 (oK (G_spec_MemFault s fun n3 =>
 (cond (n3 != (0 : Int))
 (some true)
 (cond (decide (((((ByteArray.size s) : Nat) : Int) > (51200 : Int))))
 (some true)
 (cond (decide ((n < (0 : Int))))
 (some true)
 (some (decide ((n > (255 : Int))))))))) fun j =>
 (cond j
 (k true)
 (G_spec_Walk s n n1 n2 b1 fun n4 n5 n6 b2 b3 s1 l1 =>
 (c_laws_FnTwoWalks_r_0 N s n n1 n2 b1 l n4 n5 n6 b2 b3 s1 l1 false (0 : Int) [] fun b8 l5 =>
 (cond (Nat.ble (2048 + (ByteArray.size s)) 9223372036854775807)
 (G_spec_MapPages_ww ((Go.Eng.toBytes (Go.Eng.seg (List.replicate 2048 (0 : Int)) 0 2048)) ++ s) (0 : Int) b8 false l5 [(1 : Int), (2 : Int), (3 : Int), (4 : Int), (5 : Int), (6 : Int), (7 : Int)] (fun n14 n15 s4 b9 l6 l7 l8 =>
 (cond (n14 != (0 : Int))
 (k true)
 (G_impl_WalkTwo s4 (0 : Int) n n1 n2 b1 fun n16 n17 n18 n19 s5 =>
 (G_spec_WalkTwo s4 (0 : Int) n n1 n2 b1 fun n20 n21 n22 n23 s6 =>
 (oK (cond (n16 != n20)
 (some true)
 (cond (n18 != n22)
 (some true)
 (some (!(decide ((s5 = s6))))))) fun j1 =>
 (cond j1
 (k false)
 (oK (cond (decide ((s1 = (ByteArray.mk (List.toArray [])))))
 (some true)
 (some (n4 != (0 : Int)))) fun j2 =>
 (cond j2
 (oK (cond (n16 != (0 : Int))
 (some true)
 (cond (decide ((s5 = (ByteArray.mk (List.toArray [])))))
 (some true)
 (some (n4 == (2 : Int))))) fun j3 =>
 (k j3))
 (oK (cond (n16 == (0 : Int))
 (cond (n17 == n5)
 (cond (n18 == (IntKind.wrap IntKind.i64 (n5 + (2048 : Int))))
 (cond ((decide (((2048 : Int) ≤ (((ByteArray.size s5) : Nat) : Int)))) && (decide (((((ByteArray.size s5) : Nat) : Int) ≤ (((ByteArray.size s5) : Nat) : Int)))))
 (some (decide (((ByteArray.extract s5 2048 (Int.toNat (((ByteArray.size s5) : Nat) : Int))) = s1))))
 none)
 (some false))
 (some false))
 (some false)) fun j4 =>
 (k j4)))))))))) (fun s7 m m1 m2 b10 l9 l10 l11 =>
 (G_impl_WalkTwo s7 (0 : Int) n n1 n2 b1 fun n24 n25 n26 n27 s8 =>
 (G_spec_WalkTwo s7 (0 : Int) n n1 n2 b1 fun n28 n29 n30 n31 s9 =>
 (oK (cond (n24 != n28)
 (some true)
 (cond (n26 != n30)
 (some true)
 (some (!(decide ((s8 = s9))))))) fun j5 =>
 (cond j5
 (k false)
 (oK (cond (decide ((s1 = (ByteArray.mk (List.toArray [])))))
 (some true)
 (some (n4 != (0 : Int)))) fun j6 =>
 (cond j6
 (oK (cond (n24 != (0 : Int))
 (some true)
 (cond (decide ((s8 = (ByteArray.mk (List.toArray [])))))
 (some true)
 (some (n4 == (2 : Int))))) fun j7 =>
 (k j7))
 (oK (cond (n24 == (0 : Int))
 (cond (n25 == n5)
 (cond (n26 == (IntKind.wrap IntKind.i64 (n5 + (2048 : Int))))
 (cond ((decide (((2048 : Int) ≤ (((ByteArray.size s8) : Nat) : Int)))) && (decide (((((ByteArray.size s8) : Nat) : Int) ≤ (((ByteArray.size s8) : Nat) : Int)))))
 (some (decide (((ByteArray.extract s8 2048 (Int.toNat (((ByteArray.size s8) : Nat) : Int))) = s1))))
 none)
 (some false))
 (some false))
 (some false)) fun j8 =>
 (k j8))))))))))
 none)))))))
theorem ea_e_laws_FnTwoWalks_r (N : Nat) (G_spec_WalkTwo : ∀ {R : Type} (s : ByteArray) (n : Int) (n1 : Int) (n2 : Int) (n3 : Int) (b : Bool) (k : Int → Int → Int → Int → ByteArray → Option R), Option R) (G_impl_WalkTwo : ∀ {R : Type} (s : ByteArray) (n : Int) (n1 : Int) (n2 : Int) (n3 : Int) (b : Bool) (k : Int → Int → Int → Int → ByteArray → Option R), Option R) (G_spec_MapPages_ww : ∀ {R : Type} (s : ByteArray) (n : Int) (b : Bool) (b1 : Bool) (l : List PageMap) (l1 : List Int) (k : Int → Int → ByteArray → Bool → (List PageMap) → (List Int) → (List Int) → Option R) (k_1 : ByteArray → Nat → Nat → Nat → Bool → (List PageMap) → (List Int) → (List Int) → Option R), Option R) (G_spec_Walk : ∀ {R : Type} (s : ByteArray) (n : Int) (n1 : Int) (n2 : Int) (b : Bool) (k : Int → Int → Int → Bool → Bool → ByteArray → (List Int) → Option R), Option R) (G_spec_MemFault : ∀ {R : Type} (s : ByteArray) (k : Int → Option R), Option R) (G_spec_DrawWalk_r : ∀ {R : Type} (b : Bool) (l : List Int) (k : ByteArray → Int → Int → Int → Bool → Option R), Option R) {R : Type} (b : Bool) (l : List Int) (K : AV → Hp E → Option R) :
    runFnI (E := E) (OA_laws_FnTwoWalks_r N G_spec_WalkTwo G_impl_WalkTwo G_spec_MapPages_ww G_spec_Walk G_spec_MemFault G_spec_DrawWalk_r) (IT_laws_FnTwoWalks_r_0 N) sl_laws_FnTwoWalks_r J_laws_FnTwoWalks_r Try.f4 [(AV.sc (SV.slc 0 none b))] [(some (HE.mk true (HB.rows (B.u8 l))))] K =
      ga_g_laws_FnTwoWalks_r N G_spec_WalkTwo G_impl_WalkTwo G_spec_MapPages_ww G_spec_Walk G_spec_MemFault G_spec_DrawWalk_r b l (fun b11 => K (AV.sc (SV.bool b11)) [(some (HE.mk true (HB.rows (B.u8 l))))]) := by kernel_rfl
theorem e_laws_FnTwoWalks_r (N : Nat) {R : Type} (b : Bool) (l : List Int) (K : AV → Hp E → Option R) :
    runFnI (E := E) (O_laws_FnTwoWalks_r N) (IT_laws_FnTwoWalks_r_0 N) sl_laws_FnTwoWalks_r J_laws_FnTwoWalks_r Try.f4 [(AV.sc (SV.slc 0 none b))] [(some (HE.mk true (HB.rows (B.u8 l))))] K =
      g_laws_FnTwoWalks_r N b l (fun b11 => K (AV.sc (SV.bool b11)) [(some (HE.mk true (HB.rows (B.u8 l))))]) := castPr (by kernel_rfl) (ea_e_laws_FnTwoWalks_r N (g_spec_WalkTwo N) (g_impl_WalkTwo N) (g_spec_MapPages_ww N) (g_spec_Walk N) (g_spec_MemFault N) (g_spec_DrawWalk_r N) b l K)
noncomputable def o_laws_FnTwoWalks_r (N : Nat) {R : Type} (args : List AV) (H : Hp E) (K : AV → Hp E → Option R) : Option R :=
 match args, H with
 | [(AV.sc (SV.slc 0 none b))], [(some (HE.mk true (HB.rows (B.u8 l))))] => g_laws_FnTwoWalks_r N b l (fun b11 => K (AV.sc (SV.bool b11)) [(some (HE.mk true (HB.rows (B.u8 l))))])
 | _, _ => none
theorem o_laws_FnTwoWalks_r_ok (N : Nat) : FnOk E 4 (o_laws_FnTwoWalks_r N) := by
  intro R args H K r h
  unfold o_laws_FnTwoWalks_r at h
  dsimp only at h
  split at h
  · exact fnB_ok (ids := [0]) (top := [0]) ok (O_laws_FnTwoWalks_r_ok N) (jn_ok _ _ _) Try.func4 (by kernel_rfl) (IT := IT_laws_FnTwoWalks_r_0 N) (sl := sl_laws_FnTwoWalks_r) (J := J_laws_FnTwoWalks_r) (K := K) (H := [(some (HE.mk true (HB.rows (B.u8 _))))]) (IT_laws_FnTwoWalks_r_0_ok N) (by kernel_rfl) rfl ((e_laws_FnTwoWalks_r N _ _ K).trans h)
  · cases h
end Go.Sa
