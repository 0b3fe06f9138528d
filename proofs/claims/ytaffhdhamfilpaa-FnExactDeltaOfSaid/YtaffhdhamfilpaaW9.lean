import Derived.Test.YtaffhdhamfilpaaSpec
import Derived.Test.YtaffhdhamfilpaaPLb
import Derived.Test.YtaffhdhamfilpaaW8
set_option linter.all false
namespace Go.Sa
open Go Go.Eng Go.Proofs
set_option maxRecDepth 100000
set_option maxHeartbeats 4000000
/-! ### loop.example/g00038/impl.PackMachine -/
noncomputable def oc_impl_PackMachine_wwwww_36 (N : Nat) {R : Type} (args : List AV) (H : Hp E) (K : AV → Hp E → Option R) : Option R :=
 match args, H with
 | [(AV.sc (SV.ptr 0 0 0)), (AV.sc (SV.str _))], [(some (HE.mk false (HB.exp (some 69) [SV.nilp, (SV.slc 1 none _)]))), (some (HE.mk false (HB.rows (B.u8 _))))] => o_strings_Builder_WriteString_Ww N args H K
 | [(AV.sc (SV.ptr 0 0 0)), (AV.sc (SV.str _))], [(some (HE.mk false (HB.exp (some 69) [(SV.ptr 0 0 0), (SV.slc 1 none _)]))), (some (HE.mk false (HB.rows (B.u8 _))))] => o_strings_Builder_WriteString_Ww_v1 N args H K
 | _, _ => none
theorem oc_impl_PackMachine_wwwww_36_ok (N : Nat) : FnOk E 36 (oc_impl_PackMachine_wwwww_36 N) := by
  intro R args H K r h
  unfold oc_impl_PackMachine_wwwww_36 at h
  dsimp only at h
  split at h
  · exact o_strings_Builder_WriteString_Ww_ok N _ _ _ _ h
  · exact o_strings_Builder_WriteString_Ww_v1_ok N _ _ _ _ h
  · cases h
abbrev sl_impl_PackMachine_wwwww : SlotT := [(0, ([1, 3, 4, 5, 64, 65, 66], [1, 3, 4])), (2, ([1, 3, 4, 5, 64, 65, 66, 70, 71, 72], [1, 3, 4, 5, 64, 65, 66])), (4, ([1, 4, 10, 90, 91], [4]))]
abbrev J_impl_PackMachine_wwwww : JT := jn [] [] []
noncomputable def O_impl_PackMachine_wwwww (N : Nat) : Orc E := addFn 43 osp_43 (addFn 38 (o_impl_PutWord N) (addFn 44 (o_impl_ymix N) (addFn 42 (o_impl_yhasBit N) (addFn 39 (o_impl_yframeSet_Fimpl_PackMachine_2_Wwwwww N) (addFn 37 (o_impl_PackMachine_1_wWw N) (addFn 36 (oc_impl_PackMachine_wwwww_36 N) (addFn 35 (o_impl_MachineFault_wwwww N) (noFn))))))))
noncomputable def pa_impl_PackMachine_wwwww__o_impl_PutWord (N : Nat) (G_impl_PutWord : ∀ {R : Type} (n : Int) (k : ByteArray → Option R), Option R) {R : Type} (args : List AV) (H : Hp E) (K : AV → Hp E → Option R) : Option R :=
 match args, H with
 | [(AV.sc (SV.int IntKind.i64 n))], [] => G_impl_PutWord n (fun s => K (AV.sc (SV.str s)) [])
 | _, _ => none
noncomputable def pa_impl_PackMachine_wwwww__o_impl_ymix (N : Nat) (G_impl_ymix : ∀ {R : Type} (s : ByteArray) (n : Int) (k : Int → Option R), Option R) {R : Type} (args : List AV) (H : Hp E) (K : AV → Hp E → Option R) : Option R :=
 match args, H with
 | [(AV.sc (SV.str s)), (AV.sc (SV.int IntKind.i64 n))], [] => G_impl_ymix s n (fun n6 => K (AV.sc (SV.int IntKind.i64 n6)) [])
 | _, _ => none
noncomputable def pa_impl_PackMachine_wwwww__o_impl_yhasBit (N : Nat) (G_impl_yhasBit : ∀ {R : Type} (s : ByteArray) (n : Int) (k : Bool → Option R), Option R) {R : Type} (args : List AV) (H : Hp E) (K : AV → Hp E → Option R) : Option R :=
 match args, H with
 | [(AV.sc (SV.str s)), (AV.sc (SV.int IntKind.i64 n))], [] => G_impl_yhasBit s n (fun b => K (AV.sc (SV.bool b)) [])
 | _, _ => none
noncomputable def pa_impl_PackMachine_wwwww__o_impl_yframeSet_Fimpl_PackMachine_2_Wwwwww (N : Nat) (G_impl_yframeSet_Fimpl_PackMachine_2_Wwwwww : ∀ {R : Type} (n : Int) (n1 : Int) (b : Bool) (n2 : Int) (b1 : Bool) (b2 : Bool) (s : ByteArray) (n3 : Int) (n4 : Int) (n5 : Int) (b3 : Bool) (b4 : Bool) (n6 : Int) (l : List Int) (l1 : List Int) (l2 : List Int) (l3 : List PortValue) (l4 : List PortValue) (k : ByteArray → Option R), Option R) {R : Type} (args : List AV) (H : Hp E) (K : AV → Hp E → Option R) : Option R :=
 match args, H with
 | [(AV.sc (SV.int IntKind.i64 n)), (AV.sc (SV.fn 40 [(0, (0, 0))]))], [(some (HE.mk false (HB.exp none [(SV.int IntKind.i64 n1), (SV.slc 1 none b), (SV.int IntKind.i64 n2), (SV.slc 2 none b1), (SV.slc 3 none b2), (SV.str s), (SV.int IntKind.i64 n3), (SV.int IntKind.i64 n4), (SV.int IntKind.i64 n5), (SV.slc 4 none b3), (SV.slc 5 none b4), (SV.int IntKind.i64 n6)]))), (some (HE.mk false (HB.rows (B.i64 l)))), (some (HE.mk false (HB.rows (B.i64 l1)))), (some (HE.mk false (HB.rows (B.i64 l2)))), (some (HE.mk false (HB.rows (B.iPortValue l3)))), (some (HE.mk false (HB.rows (B.iPortValue l4))))] => G_impl_yframeSet_Fimpl_PackMachine_2_Wwwwww n n1 b n2 b1 b2 s n3 n4 n5 b3 b4 n6 l l1 l2 l3 l4 (fun s2 => K (AV.sc (SV.str s2)) [(some (HE.mk false (HB.exp none [(SV.int IntKind.i64 n1), (SV.slc 1 none b), (SV.int IntKind.i64 n2), (SV.slc 2 none b1), (SV.slc 3 none b2), (SV.str s), (SV.int IntKind.i64 n3), (SV.int IntKind.i64 n4), (SV.int IntKind.i64 n5), (SV.slc 4 none b3), (SV.slc 5 none b4), (SV.int IntKind.i64 n6)]))), (some (HE.mk false (HB.rows (B.i64 l)))), (some (HE.mk false (HB.rows (B.i64 l1)))), (some (HE.mk false (HB.rows (B.i64 l2)))), (some (HE.mk false (HB.rows (B.iPortValue l3)))), (some (HE.mk false (HB.rows (B.iPortValue l4))))])
 | _, _ => none
noncomputable def pa_impl_PackMachine_wwwww__o_impl_PackMachine_1_wWw (N : Nat) (G_impl_PackMachine_1_wWw : ∀ {R : Type} (b : Bool) (l : List Int) (b1 : Bool) (l1 : List Int) (k : Option R) (k_1 : (List Int) → Bool → (List Int) → Option R), Option R) {R : Type} (args : List AV) (H : Hp E) (K : AV → Hp E → Option R) : Option R :=
 match args, H with
 | [(AV.sc (SV.slc 0 none b)), (AV.sc (SV.ptr 1 0 0))], [(some (HE.mk false (HB.rows (B.i64 l)))), (some (HE.mk false (HB.exp (some 69) [(SV.ptr 1 0 0), (SV.slc 2 none b1)]))), (some (HE.mk false (HB.rows (B.u8 l1))))] => G_impl_PackMachine_1_wWw b l b1 l1 (K (AV.tup []) [(some (HE.mk false (HB.rows (B.i64 l)))), (some (HE.mk false (HB.exp (some 69) [(SV.ptr 1 0 0), (SV.slc 2 none b1)]))), (some (HE.mk false (HB.rows (B.u8 l1))))]) (fun l10 b9 l11 => K (AV.tup []) [(some (HE.mk false (HB.rows (B.i64 l10)))), (some (HE.mk false (HB.exp (some 69) [(SV.ptr 1 0 0), (SV.slc 3 none b9)]))), none, (some (HE.mk false (HB.rows (B.u8 l11))))])
 | _, _ => none
noncomputable def pa_impl_PackMachine_wwwww__o_strings_Builder_WriteString_Ww (N : Nat) (G_strings_Builder_WriteString_Ww : ∀ {R : Type} (s : ByteArray) (b : Bool) (l : List Int) (k : Int → Bool → (List Int) → Option R), Option R) {R : Type} (args : List AV) (H : Hp E) (K : AV → Hp E → Option R) : Option R :=
 match args, H with
 | [(AV.sc (SV.ptr 0 0 0)), (AV.sc (SV.str s))], [(some (HE.mk false (HB.exp (some 69) [SV.nilp, (SV.slc 1 none b)]))), (some (HE.mk false (HB.rows (B.u8 l))))] => G_strings_Builder_WriteString_Ww s b l (fun n b1 l1 => K (AV.tup [(false, [(SV.int IntKind.i64 n)]), (false, [SV.nili])]) [(some (HE.mk false (HB.exp (some 69) [(SV.ptr 0 0 0), (SV.slc 2 none b1)]))), none, (some (HE.mk false (HB.rows (B.u8 l1))))])
 | _, _ => none
noncomputable def pa_impl_PackMachine_wwwww__o_strings_Builder_WriteString_Ww_v1 (N : Nat) (G_strings_Builder_WriteString_Ww_v1 : ∀ {R : Type} (s : ByteArray) (b : Bool) (l : List Int) (k : Int → Bool → (List Int) → Option R), Option R) {R : Type} (args : List AV) (H : Hp E) (K : AV → Hp E → Option R) : Option R :=
 match args, H with
 | [(AV.sc (SV.ptr 0 0 0)), (AV.sc (SV.str s))], [(some (HE.mk false (HB.exp (some 69) [(SV.ptr 0 0 0), (SV.slc 1 none b)]))), (some (HE.mk false (HB.rows (B.u8 l))))] => G_strings_Builder_WriteString_Ww_v1 s b l (fun n b1 l1 => K (AV.tup [(false, [(SV.int IntKind.i64 n)]), (false, [SV.nili])]) [(some (HE.mk false (HB.exp (some 69) [(SV.ptr 0 0 0), (SV.slc 2 none b1)]))), none, (some (HE.mk false (HB.rows (B.u8 l1))))])
 | _, _ => none
noncomputable def pa_impl_PackMachine_wwwww__oc_impl_PackMachine_wwwww_36 (N : Nat) (G_strings_Builder_WriteString_Ww : ∀ {R : Type} (s : ByteArray) (b : Bool) (l : List Int) (k : Int → Bool → (List Int) → Option R), Option R) (G_strings_Builder_WriteString_Ww_v1 : ∀ {R : Type} (s : ByteArray) (b : Bool) (l : List Int) (k : Int → Bool → (List Int) → Option R), Option R) {R : Type} (args : List AV) (H : Hp E) (K : AV → Hp E → Option R) : Option R :=
 match args, H with
 | [(AV.sc (SV.ptr 0 0 0)), (AV.sc (SV.str _))], [(some (HE.mk false (HB.exp (some 69) [SV.nilp, (SV.slc 1 none _)]))), (some (HE.mk false (HB.rows (B.u8 _))))] => pa_impl_PackMachine_wwwww__o_strings_Builder_WriteString_Ww N G_strings_Builder_WriteString_Ww args H K
 | [(AV.sc (SV.ptr 0 0 0)), (AV.sc (SV.str _))], [(some (HE.mk false (HB.exp (some 69) [(SV.ptr 0 0 0), (SV.slc 1 none _)]))), (some (HE.mk false (HB.rows (B.u8 _))))] => pa_impl_PackMachine_wwwww__o_strings_Builder_WriteString_Ww_v1 N G_strings_Builder_WriteString_Ww_v1 args H K
 | _, _ => none
noncomputable def pa_impl_PackMachine_wwwww__o_impl_MachineFault_wwwww (N : Nat) (G_impl_MachineFault_wwwww : ∀ {R : Type} (n : Int) (b : Bool) (n1 : Int) (b1 : Bool) (b2 : Bool) (s : ByteArray) (n2 : Int) (n3 : Int) (n4 : Int) (b3 : Bool) (b4 : Bool) (n5 : Int) (l : List Int) (l1 : List Int) (l2 : List Int) (l3 : List PortValue) (l4 : List PortValue) (k : Int → Option R), Option R) {R : Type} (args : List AV) (H : Hp E) (K : AV → Hp E → Option R) : Option R :=
 match args, H with
 | [(AV.agg [(SV.int IntKind.i64 n), (SV.slc 0 none b), (SV.int IntKind.i64 n1), (SV.slc 1 none b1), (SV.slc 2 none b2), (SV.str s), (SV.int IntKind.i64 n2), (SV.int IntKind.i64 n3), (SV.int IntKind.i64 n4), (SV.slc 3 none b3), (SV.slc 4 none b4), (SV.int IntKind.i64 n5)])], [(some (HE.mk false (HB.rows (B.i64 l)))), (some (HE.mk false (HB.rows (B.i64 l1)))), (some (HE.mk false (HB.rows (B.i64 l2)))), (some (HE.mk false (HB.rows (B.iPortValue l3)))), (some (HE.mk false (HB.rows (B.iPortValue l4))))] => G_impl_MachineFault_wwwww n b n1 b1 b2 s n2 n3 n4 b3 b4 n5 l l1 l2 l3 l4 (fun n6 => K (AV.sc (SV.int IntKind.i64 n6)) [(some (HE.mk false (HB.rows (B.i64 l)))), (some (HE.mk false (HB.rows (B.i64 l1)))), (some (HE.mk false (HB.rows (B.i64 l2)))), (some (HE.mk false (HB.rows (B.iPortValue l3)))), (some (HE.mk false (HB.rows (B.iPortValue l4))))])
 | _, _ => none
noncomputable def OA_impl_PackMachine_wwwww (N : Nat) (G_impl_PutWord : ∀ {R : Type} (n : Int) (k : ByteArray → Option R), Option R) (G_impl_ymix : ∀ {R : Type} (s : ByteArray) (n : Int) (k : Int → Option R), Option R) (G_impl_yhasBit : ∀ {R : Type} (s : ByteArray) (n : Int) (k : Bool → Option R), Option R) (G_impl_yframeSet_Fimpl_PackMachine_2_Wwwwww : ∀ {R : Type} (n : Int) (n1 : Int) (b : Bool) (n2 : Int) (b1 : Bool) (b2 : Bool) (s : ByteArray) (n3 : Int) (n4 : Int) (n5 : Int) (b3 : Bool) (b4 : Bool) (n6 : Int) (l : List Int) (l1 : List Int) (l2 : List Int) (l3 : List PortValue) (l4 : List PortValue) (k : ByteArray → Option R), Option R) (G_impl_PackMachine_1_wWw : ∀ {R : Type} (b : Bool) (l : List Int) (b1 : Bool) (l1 : List Int) (k : Option R) (k_1 : (List Int) → Bool → (List Int) → Option R), Option R) (G_strings_Builder_WriteString_Ww : ∀ {R : Type} (s : ByteArray) (b : Bool) (l : List Int) (k : Int → Bool → (List Int) → Option R), Option R) (G_strings_Builder_WriteString_Ww_v1 : ∀ {R : Type} (s : ByteArray) (b : Bool) (l : List Int) (k : Int → Bool → (List Int) → Option R), Option R) (G_impl_MachineFault_wwwww : ∀ {R : Type} (n : Int) (b : Bool) (n1 : Int) (b1 : Bool) (b2 : Bool) (s : ByteArray) (n2 : Int) (n3 : Int) (n4 : Int) (b3 : Bool) (b4 : Bool) (n5 : Int) (l : List Int) (l1 : List Int) (l2 : List Int) (l3 : List PortValue) (l4 : List PortValue) (k : Int → Option R), Option R) : Orc E := addFn 43 osp_43 (addFn 38 (pa_impl_PackMachine_wwwww__o_impl_PutWord N G_impl_PutWord) (addFn 44 (pa_impl_PackMachine_wwwww__o_impl_ymix N G_impl_ymix) (addFn 42 (pa_impl_PackMachine_wwwww__o_impl_yhasBit N G_impl_yhasBit) (addFn 39 (pa_impl_PackMachine_wwwww__o_impl_yframeSet_Fimpl_PackMachine_2_Wwwwww N G_impl_yframeSet_Fimpl_PackMachine_2_Wwwwww) (addFn 37 (pa_impl_PackMachine_wwwww__o_impl_PackMachine_1_wWw N G_impl_PackMachine_1_wWw) (addFn 36 (pa_impl_PackMachine_wwwww__oc_impl_PackMachine_wwwww_36 N G_strings_Builder_WriteString_Ww G_strings_Builder_WriteString_Ww_v1) (addFn 35 (pa_impl_PackMachine_wwwww__o_impl_MachineFault_wwwww N G_impl_MachineFault_wwwww) (noFn))))))))
theorem O_impl_PackMachine_wwwww_ok (N : Nat) : OrcOk (O_impl_PackMachine_wwwww N) := addFn_ok osp_43_ok (addFn_ok (o_impl_PutWord_ok N) (addFn_ok (o_impl_ymix_ok N) (addFn_ok (o_impl_yhasBit_ok N) (addFn_ok (o_impl_yframeSet_Fimpl_PackMachine_2_Wwwwww_ok N) (addFn_ok (o_impl_PackMachine_1_wWw_ok N) (addFn_ok (oc_impl_PackMachine_wwwww_36_ok N) (addFn_ok (o_impl_MachineFault_wwwww_ok N) (noFn_ok))))))))
noncomputable def s_impl_PackMachine_wwwww_2 (N : Nat) {R : Type} (n17 : Int) (b15 : Bool) (n18 : Int) (n19 : Int) (b16 : Bool) (n20 : Int) (l12 : List Int) (l13 : List Int) (l14 : List Int) (l15 : List PortValue) (l16 : List PortValue) (n22 : Int) (b17 : Bool) (n23 : Int) (b18 : Bool) (b19 : Bool) (s2 : ByteArray) (n24 : Int) (n25 : Int) (n26 : Int) (b20 : Bool) (b21 : Bool) (n27 : Int) (b23 : Bool) (b24 : Bool) (n21 : Int) (b22 : Bool) (l17 : List Int) (ag : Int → Bool → (List Int) → Option R)  (kN : Bool → (List Int) → Option R) : Option R :=
 (cond (decide ((n21 < n20)))
 (cond ((decide (((0 : Int) ≤ n21))) && (decide ((n21 < (((List.length l15) : Nat) : Int)))))
 (elemK l15 (Int.toNat n21) fun x =>
 (g_impl_PackMachine_1_wWw N false [(PortValue.fPort x), (PortValue.fValue x)] b22 l17 (
 (ag (IntKind.wrap IntKind.i64 (n21 + (1 : Int))) b22 l17)) (fun l18 b25 l19 =>
 (ag (IntKind.wrap IntKind.i64 (n21 + (1 : Int))) b25 l19))))
 none)
 (kN b22 l17))
noncomputable def ga_s_impl_PackMachine_wwwww_2 (N : Nat) (G_impl_PutWord : ∀ {R : Type} (n : Int) (k : ByteArray → Option R), Option R) (G_impl_ymix : ∀ {R : Type} (s : ByteArray) (n : Int) (k : Int → Option R), Option R) (G_impl_yhasBit : ∀ {R : Type} (s : ByteArray) (n : Int) (k : Bool → Option R), Option R) (G_impl_yframeSet_Fimpl_PackMachine_2_Wwwwww : ∀ {R : Type} (n : Int) (n1 : Int) (b : Bool) (n2 : Int) (b1 : Bool) (b2 : Bool) (s : ByteArray) (n3 : Int) (n4 : Int) (n5 : Int) (b3 : Bool) (b4 : Bool) (n6 : Int) (l : List Int) (l1 : List Int) (l2 : List Int) (l3 : List PortValue) (l4 : List PortValue) (k : ByteArray → Option R), Option R) (G_impl_PackMachine_1_wWw : ∀ {R : Type} (b : Bool) (l : List Int) (b1 : Bool) (l1 : List Int) (k : Option R) (k_1 : (List Int) → Bool → (List Int) → Option R), Option R) (G_strings_Builder_WriteString_Ww : ∀ {R : Type} (s : ByteArray) (b : Bool) (l : List Int) (k : Int → Bool → (List Int) → Option R), Option R) (G_strings_Builder_WriteString_Ww_v1 : ∀ {R : Type} (s : ByteArray) (b : Bool) (l : List Int) (k : Int → Bool → (List Int) → Option R), Option R) (G_impl_MachineFault_wwwww : ∀ {R : Type} (n : Int) (b : Bool) (n1 : Int) (b1 : Bool) (b2 : Bool) (s : ByteArray) (n2 : Int) (n3 : Int) (n4 : Int) (b3 : Bool) (b4 : Bool) (n5 : Int) (l : List Int) (l1 : List Int) (l2 : List Int) (l3 : List PortValue) (l4 : List PortValue) (k : Int → Option R), Option R) {R : Type} (n17 : Int) (b15 : Bool) (n18 : Int) (n19 : Int) (b16 : Bool) (n20 : Int) (l12 : List Int) (l13 : List Int) (l14 : List Int) (l15 : List PortValue) (l16 : List PortValue) (n22 : Int) (b17 : Bool) (n23 : Int) (b18 : Bool) (b19 : Bool) (s2 : ByteArray) (n24 : Int) (n25 : Int) (n26 : Int) (b20 : Bool) (b21 : Bool) (n27 : Int) (b23 : Bool) (b24 : Bool) (n21 : Int) (b22 : Bool) (l17 : List Int) (ag : Int → Bool → (List Int) → Option R)  (kN : Bool → (List Int) → Option R) : Option R :=
 (cond (decide ((n21 < n20)))
 (cond ((decide (((0 : Int) ≤ n21))) && (decide ((n21 < (((List.length l15) : Nat) : Int)))))
 (elemK l15 (Int.toNat n21) fun x =>
 (G_impl_PackMachine_1_wWw false [(PortValue.fPort x), (PortValue.fValue x)] b22 l17 (
 (ag (IntKind.wrap IntKind.i64 (n21 + (1 : Int))) b22 l17)) (fun l18 b25 l19 =>
 (ag (IntKind.wrap IntKind.i64 (n21 + (1 : Int))) b25 l19))))
 none)
 (kN b22 l17))
noncomputable def l_impl_PackMachine_wwwww_2 (N : Nat) {R : Type} (n17 : Int) (b15 : Bool) (n18 : Int) (n19 : Int) (b16 : Bool) (n20 : Int) (l12 : List Int) (l13 : List Int) (l14 : List Int) (l15 : List PortValue) (l16 : List PortValue) (n22 : Int) (b17 : Bool) (n23 : Int) (b18 : Bool) (b19 : Bool) (s2 : ByteArray) (n24 : Int) (n25 : Int) (n26 : Int) (b20 : Bool) (b21 : Bool) (n27 : Int) (b23 : Bool) (b24 : Bool) (kN : Bool → (List Int) → Option R) : Nat → Int → Bool → (List Int) → Option R
 | 0, _, _, _ => none
 | f + 1, n21, b22, l17 => s_impl_PackMachine_wwwww_2 N n17 b15 n18 n19 b16 n20 l12 l13 l14 l15 l16 n22 b17 n23 b18 b19 s2 n24 n25 n26 b20 b21 n27 b23 b24 n21 b22 l17 (fun n21 b22 l17 => l_impl_PackMachine_wwwww_2 N n17 b15 n18 n19 b16 n20 l12 l13 l14 l15 l16 n22 b17 n23 b18 b19 s2 n24 n25 n26 b20 b21 n27 b23 b24 kN f n21 b22 l17)  kN
noncomputable def c_impl_PackMachine_wwwww_2 (N : Nat) {R : Type} (n17 : Int) (b15 : Bool) (n18 : Int) (n19 : Int) (b16 : Bool) (n20 : Int) (l12 : List Int) (l13 : List Int) (l14 : List Int) (l15 : List PortValue) (l16 : List PortValue) (n22 : Int) (b17 : Bool) (n23 : Int) (b18 : Bool) (b19 : Bool) (s2 : ByteArray) (n24 : Int) (n25 : Int) (n26 : Int) (b20 : Bool) (b21 : Bool) (n27 : Int) (b23 : Bool) (b24 : Bool) (n21 : Int) (b22 : Bool) (l17 : List Int) (kN : Bool → (List Int) → Option R) : Option R := l_impl_PackMachine_wwwww_2 N n17 b15 n18 n19 b16 n20 l12 l13 l14 l15 l16 n22 b17 n23 b18 b19 s2 n24 n25 n26 b20 b21 n27 b23 b24 kN N n21 b22 l17
theorem ea_se_impl_PackMachine_wwwww_2 (N : Nat) (G_impl_PutWord : ∀ {R : Type} (n : Int) (k : ByteArray → Option R), Option R) (G_impl_ymix : ∀ {R : Type} (s : ByteArray) (n : Int) (k : Int → Option R), Option R) (G_impl_yhasBit : ∀ {R : Type} (s : ByteArray) (n : Int) (k : Bool → Option R), Option R) (G_impl_yframeSet_Fimpl_PackMachine_2_Wwwwww : ∀ {R : Type} (n : Int) (n1 : Int) (b : Bool) (n2 : Int) (b1 : Bool) (b2 : Bool) (s : ByteArray) (n3 : Int) (n4 : Int) (n5 : Int) (b3 : Bool) (b4 : Bool) (n6 : Int) (l : List Int) (l1 : List Int) (l2 : List Int) (l3 : List PortValue) (l4 : List PortValue) (k : ByteArray → Option R), Option R) (G_impl_PackMachine_1_wWw : ∀ {R : Type} (b : Bool) (l : List Int) (b1 : Bool) (l1 : List Int) (k : Option R) (k_1 : (List Int) → Bool → (List Int) → Option R), Option R) (G_strings_Builder_WriteString_Ww : ∀ {R : Type} (s : ByteArray) (b : Bool) (l : List Int) (k : Int → Bool → (List Int) → Option R), Option R) (G_strings_Builder_WriteString_Ww_v1 : ∀ {R : Type} (s : ByteArray) (b : Bool) (l : List Int) (k : Int → Bool → (List Int) → Option R), Option R) (G_impl_MachineFault_wwwww : ∀ {R : Type} (n : Int) (b : Bool) (n1 : Int) (b1 : Bool) (b2 : Bool) (s : ByteArray) (n2 : Int) (n3 : Int) (n4 : Int) (b3 : Bool) (b4 : Bool) (n5 : Int) (l : List Int) (l1 : List Int) (l2 : List Int) (l3 : List PortValue) (l4 : List PortValue) (k : Int → Option R), Option R) {R : Type} (n17 : Int) (b15 : Bool) (n18 : Int) (n19 : Int) (b16 : Bool) (n20 : Int) (l12 : List Int) (l13 : List Int) (l14 : List Int) (l15 : List PortValue) (l16 : List PortValue) (n22 : Int) (b17 : Bool) (n23 : Int) (b18 : Bool) (b19 : Bool) (s2 : ByteArray) (n24 : Int) (n25 : Int) (n26 : Int) (b20 : Bool) (b21 : Bool) (n27 : Int) (b23 : Bool) (b24 : Bool) (n21 : Int) (b22 : Bool) (l17 : List Int) (AG : List (Option AV) → Hp E → Option R) (KL : Ex → List (Option AV) → Hp E → Option R) :
    iterStep (E := E) (OA_impl_PackMachine_wwwww N G_impl_PutWord G_impl_ymix G_impl_yhasBit G_impl_yframeSet_Fimpl_PackMachine_2_Wwwwww G_impl_PackMachine_1_wWw G_strings_Builder_WriteString_Ww G_strings_Builder_WriteString_Ww_v1 G_impl_MachineFault_wwwww) (fun {R} => LI (noIt) 5 116 sl_impl_PackMachine_wwwww (R := R)) J_impl_PackMachine_wwwww 5 116 2 [1, 3, 4, 5, 64, 65, 66, 70, 71, 72] [1, 3, 4, 5, 64, 65, 66] (body Try.f9 2) AG KL [(some (AV.sc (SV.ptr 5 0 0))), (some (AV.sc (SV.int IntKind.i64 n17))), (some (AV.sc (SV.ptr 6 0 0))), (some (AV.sc (SV.fn 37 [(6, (0, 0))]))), (some (AV.sc (SV.slc 8 (some (0, (2, 0))) b15))), (some (AV.sc (SV.int IntKind.i64 n18))), (some (AV.sc (SV.int IntKind.i64 n19))), (some (AV.sc (SV.slc 3 none b16))), (some (AV.sc (SV.int IntKind.i64 n20))), (some (AV.sc (SV.int IntKind.i64 n21)))] [(some (HE.mk false (HB.rows (B.i64 l12)))), (some (HE.mk false (HB.rows (B.i64 l13)))), (some (HE.mk false (HB.rows (B.i64 l14)))), (some (HE.mk false (HB.rows (B.iPortValue l15)))), (some (HE.mk false (HB.rows (B.iPortValue l16)))), (some (HE.mk false (HB.exp none [(SV.int IntKind.i64 n22), (SV.slc 0 none b17), (SV.int IntKind.i64 n23), (SV.slc 1 none b18), (SV.slc 2 none b19), (SV.str s2), (SV.int IntKind.i64 n24), (SV.int IntKind.i64 n25), (SV.int IntKind.i64 n26), (SV.slc 3 none b20), (SV.slc 4 none b21), (SV.int IntKind.i64 n27)]))), (some (HE.mk false (HB.exp (some 69) [(SV.ptr 6 0 0), (SV.slc 7 none b22)]))), (some (HE.mk false (HB.rows (B.u8 l17)))), (some (HE.mk false (HB.exp none [(SV.slc 3 none b23), (SV.slc 4 none b24)])))] =
      ga_s_impl_PackMachine_wwwww_2 N G_impl_PutWord G_impl_ymix G_impl_yhasBit G_impl_yframeSet_Fimpl_PackMachine_2_Wwwwww G_impl_PackMachine_1_wWw G_strings_Builder_WriteString_Ww G_strings_Builder_WriteString_Ww_v1 G_impl_MachineFault_wwwww n17 b15 n18 n19 b16 n20 l12 l13 l14 l15 l16 n22 b17 n23 b18 b19 s2 n24 n25 n26 b20 b21 n27 b23 b24 n21 b22 l17 (fun n21 b22 l17 => AG [(some (AV.sc (SV.ptr 5 0 0))), (some (AV.sc (SV.int IntKind.i64 n17))), (some (AV.sc (SV.ptr 6 0 0))), (some (AV.sc (SV.fn 37 [(6, (0, 0))]))), (some (AV.sc (SV.slc 8 (some (0, (2, 0))) b15))), (some (AV.sc (SV.int IntKind.i64 n18))), (some (AV.sc (SV.int IntKind.i64 n19))), (some (AV.sc (SV.slc 3 none b16))), (some (AV.sc (SV.int IntKind.i64 n20))), (some (AV.sc (SV.int IntKind.i64 n21)))] [(some (HE.mk false (HB.rows (B.i64 l12)))), (some (HE.mk false (HB.rows (B.i64 l13)))), (some (HE.mk false (HB.rows (B.i64 l14)))), (some (HE.mk false (HB.rows (B.iPortValue l15)))), (some (HE.mk false (HB.rows (B.iPortValue l16)))), (some (HE.mk false (HB.exp none [(SV.int IntKind.i64 n22), (SV.slc 0 none b17), (SV.int IntKind.i64 n23), (SV.slc 1 none b18), (SV.slc 2 none b19), (SV.str s2), (SV.int IntKind.i64 n24), (SV.int IntKind.i64 n25), (SV.int IntKind.i64 n26), (SV.slc 3 none b20), (SV.slc 4 none b21), (SV.int IntKind.i64 n27)]))), (some (HE.mk false (HB.exp (some 69) [(SV.ptr 6 0 0), (SV.slc 7 none b22)]))), (some (HE.mk false (HB.rows (B.u8 l17)))), (some (HE.mk false (HB.exp none [(SV.slc 3 none b23), (SV.slc 4 none b24)])))])  (fun b110 l118 => KL Ex.normal [(some (AV.sc (SV.ptr 5 0 0))), (some (AV.sc (SV.int IntKind.i64 n17))), (some (AV.sc (SV.ptr 6 0 0))), (some (AV.sc (SV.fn 37 [(6, (0, 0))]))), (some (AV.sc (SV.slc 8 (some (0, (2, 0))) b15))), (some (AV.sc (SV.int IntKind.i64 n18))), (some (AV.sc (SV.int IntKind.i64 n19)))] [(some (HE.mk false (HB.rows (B.i64 l12)))), (some (HE.mk false (HB.rows (B.i64 l13)))), (some (HE.mk false (HB.rows (B.i64 l14)))), (some (HE.mk false (HB.rows (B.iPortValue l15)))), (some (HE.mk false (HB.rows (B.iPortValue l16)))), (some (HE.mk false (HB.exp none [(SV.int IntKind.i64 n22), (SV.slc 0 none b17), (SV.int IntKind.i64 n23), (SV.slc 1 none b18), (SV.slc 2 none b19), (SV.str s2), (SV.int IntKind.i64 n24), (SV.int IntKind.i64 n25), (SV.int IntKind.i64 n26), (SV.slc 3 none b20), (SV.slc 4 none b21), (SV.int IntKind.i64 n27)]))), (some (HE.mk false (HB.exp (some 69) [(SV.ptr 6 0 0), (SV.slc 7 none b110)]))), (some (HE.mk false (HB.rows (B.u8 l118)))), (some (HE.mk false (HB.exp none [(SV.slc 3 none b23), (SV.slc 4 none b24)])))]) := by kernel_rfl
theorem se_impl_PackMachine_wwwww_2 (N : Nat) {R : Type} (n17 : Int) (b15 : Bool) (n18 : Int) (n19 : Int) (b16 : Bool) (n20 : Int) (l12 : List Int) (l13 : List Int) (l14 : List Int) (l15 : List PortValue) (l16 : List PortValue) (n22 : Int) (b17 : Bool) (n23 : Int) (b18 : Bool) (b19 : Bool) (s2 : ByteArray) (n24 : Int) (n25 : Int) (n26 : Int) (b20 : Bool) (b21 : Bool) (n27 : Int) (b23 : Bool) (b24 : Bool) (n21 : Int) (b22 : Bool) (l17 : List Int) (AG : List (Option AV) → Hp E → Option R) (KL : Ex → List (Option AV) → Hp E → Option R) :
    iterStep (E := E) (O_impl_PackMachine_wwwww N) (fun {R} => LI (noIt) 5 116 sl_impl_PackMachine_wwwww (R := R)) J_impl_PackMachine_wwwww 5 116 2 [1, 3, 4, 5, 64, 65, 66, 70, 71, 72] [1, 3, 4, 5, 64, 65, 66] (body Try.f9 2) AG KL [(some (AV.sc (SV.ptr 5 0 0))), (some (AV.sc (SV.int IntKind.i64 n17))), (some (AV.sc (SV.ptr 6 0 0))), (some (AV.sc (SV.fn 37 [(6, (0, 0))]))), (some (AV.sc (SV.slc 8 (some (0, (2, 0))) b15))), (some (AV.sc (SV.int IntKind.i64 n18))), (some (AV.sc (SV.int IntKind.i64 n19))), (some (AV.sc (SV.slc 3 none b16))), (some (AV.sc (SV.int IntKind.i64 n20))), (some (AV.sc (SV.int IntKind.i64 n21)))] [(some (HE.mk false (HB.rows (B.i64 l12)))), (some (HE.mk false (HB.rows (B.i64 l13)))), (some (HE.mk false (HB.rows (B.i64 l14)))), (some (HE.mk false (HB.rows (B.iPortValue l15)))), (some (HE.mk false (HB.rows (B.iPortValue l16)))), (some (HE.mk false (HB.exp none [(SV.int IntKind.i64 n22), (SV.slc 0 none b17), (SV.int IntKind.i64 n23), (SV.slc 1 none b18), (SV.slc 2 none b19), (SV.str s2), (SV.int IntKind.i64 n24), (SV.int IntKind.i64 n25), (SV.int IntKind.i64 n26), (SV.slc 3 none b20), (SV.slc 4 none b21), (SV.int IntKind.i64 n27)]))), (some (HE.mk false (HB.exp (some 69) [(SV.ptr 6 0 0), (SV.slc 7 none b22)]))), (some (HE.mk false (HB.rows (B.u8 l17)))), (some (HE.mk false (HB.exp none [(SV.slc 3 none b23), (SV.slc 4 none b24)])))] =
      s_impl_PackMachine_wwwww_2 N n17 b15 n18 n19 b16 n20 l12 l13 l14 l15 l16 n22 b17 n23 b18 b19 s2 n24 n25 n26 b20 b21 n27 b23 b24 n21 b22 l17 (fun n21 b22 l17 => AG [(some (AV.sc (SV.ptr 5 0 0))), (some (AV.sc (SV.int IntKind.i64 n17))), (some (AV.sc (SV.ptr 6 0 0))), (some (AV.sc (SV.fn 37 [(6, (0, 0))]))), (some (AV.sc (SV.slc 8 (some (0, (2, 0))) b15))), (some (AV.sc (SV.int IntKind.i64 n18))), (some (AV.sc (SV.int IntKind.i64 n19))), (some (AV.sc (SV.slc 3 none b16))), (some (AV.sc (SV.int IntKind.i64 n20))), (some (AV.sc (SV.int IntKind.i64 n21)))] [(some (HE.mk false (HB.rows (B.i64 l12)))), (some (HE.mk false (HB.rows (B.i64 l13)))), (some (HE.mk false (HB.rows (B.i64 l14)))), (some (HE.mk false (HB.rows (B.iPortValue l15)))), (some (HE.mk false (HB.rows (B.iPortValue l16)))), (some (HE.mk false (HB.exp none [(SV.int IntKind.i64 n22), (SV.slc 0 none b17), (SV.int IntKind.i64 n23), (SV.slc 1 none b18), (SV.slc 2 none b19), (SV.str s2), (SV.int IntKind.i64 n24), (SV.int IntKind.i64 n25), (SV.int IntKind.i64 n26), (SV.slc 3 none b20), (SV.slc 4 none b21), (SV.int IntKind.i64 n27)]))), (some (HE.mk false (HB.exp (some 69) [(SV.ptr 6 0 0), (SV.slc 7 none b22)]))), (some (HE.mk false (HB.rows (B.u8 l17)))), (some (HE.mk false (HB.exp none [(SV.slc 3 none b23), (SV.slc 4 none b24)])))])  (fun b110 l118 => KL Ex.normal [(some (AV.sc (SV.ptr 5 0 0))), (some (AV.sc (SV.int IntKind.i64 n17))), (some (AV.sc (SV.ptr 6 0 0))), (some (AV.sc (SV.fn 37 [(6, (0, 0))]))), (some (AV.sc (SV.slc 8 (some (0, (2, 0))) b15))), (some (AV.sc (SV.int IntKind.i64 n18))), (some (AV.sc (SV.int IntKind.i64 n19)))] [(some (HE.mk false (HB.rows (B.i64 l12)))), (some (HE.mk false (HB.rows (B.i64 l13)))), (some (HE.mk false (HB.rows (B.i64 l14)))), (some (HE.mk false (HB.rows (B.iPortValue l15)))), (some (HE.mk false (HB.rows (B.iPortValue l16)))), (some (HE.mk false (HB.exp none [(SV.int IntKind.i64 n22), (SV.slc 0 none b17), (SV.int IntKind.i64 n23), (SV.slc 1 none b18), (SV.slc 2 none b19), (SV.str s2), (SV.int IntKind.i64 n24), (SV.int IntKind.i64 n25), (SV.int IntKind.i64 n26), (SV.slc 3 none b20), (SV.slc 4 none b21), (SV.int IntKind.i64 n27)]))), (some (HE.mk false (HB.exp (some 69) [(SV.ptr 6 0 0), (SV.slc 7 none b110)]))), (some (HE.mk false (HB.rows (B.u8 l118)))), (some (HE.mk false (HB.exp none [(SV.slc 3 none b23), (SV.slc 4 none b24)])))]) := castPr (by kernel_rfl) (ea_se_impl_PackMachine_wwwww_2 N (g_impl_PutWord N) (g_impl_ymix N) (g_impl_yhasBit N) (g_impl_yframeSet_Fimpl_PackMachine_2_Wwwwww N) (g_impl_PackMachine_1_wWw N) (g_strings_Builder_WriteString_Ww N) (g_strings_Builder_WriteString_Ww_v1 N) (g_impl_MachineFault_wwwww N) n17 b15 n18 n19 b16 n20 l12 l13 l14 l15 l16 n22 b17 n23 b18 b19 s2 n24 n25 n26 b20 b21 n27 b23 b24 n21 b22 l17 AG KL)
theorem le_impl_PackMachine_wwwww_2 (N : Nat) {R : Type} (n17 : Int) (b15 : Bool) (n18 : Int) (n19 : Int) (b16 : Bool) (n20 : Int) (l12 : List Int) (l13 : List Int) (l14 : List Int) (l15 : List PortValue) (l16 : List PortValue) (n22 : Int) (b17 : Bool) (n23 : Int) (b18 : Bool) (b19 : Bool) (s2 : ByteArray) (n24 : Int) (n25 : Int) (n26 : Int) (b20 : Bool) (b21 : Bool) (n27 : Int) (b23 : Bool) (b24 : Bool) (KL : Ex → List (Option AV) → Hp E → Option R) : ∀ (f : Nat), ∀ (n21 : Int) (b22 : Bool) (l17 : List Int), iterK (E := E) (O_impl_PackMachine_wwwww N) (fun {R} => LI (noIt) 5 116 sl_impl_PackMachine_wwwww (R := R)) J_impl_PackMachine_wwwww 5 116 2 [1, 3, 4, 5, 64, 65, 66, 70, 71, 72] [1, 3, 4, 5, 64, 65, 66] (body Try.f9 2) f [(some (AV.sc (SV.ptr 5 0 0))), (some (AV.sc (SV.int IntKind.i64 n17))), (some (AV.sc (SV.ptr 6 0 0))), (some (AV.sc (SV.fn 37 [(6, (0, 0))]))), (some (AV.sc (SV.slc 8 (some (0, (2, 0))) b15))), (some (AV.sc (SV.int IntKind.i64 n18))), (some (AV.sc (SV.int IntKind.i64 n19))), (some (AV.sc (SV.slc 3 none b16))), (some (AV.sc (SV.int IntKind.i64 n20))), (some (AV.sc (SV.int IntKind.i64 n21)))] [(some (HE.mk false (HB.rows (B.i64 l12)))), (some (HE.mk false (HB.rows (B.i64 l13)))), (some (HE.mk false (HB.rows (B.i64 l14)))), (some (HE.mk false (HB.rows (B.iPortValue l15)))), (some (HE.mk false (HB.rows (B.iPortValue l16)))), (some (HE.mk false (HB.exp none [(SV.int IntKind.i64 n22), (SV.slc 0 none b17), (SV.int IntKind.i64 n23), (SV.slc 1 none b18), (SV.slc 2 none b19), (SV.str s2), (SV.int IntKind.i64 n24), (SV.int IntKind.i64 n25), (SV.int IntKind.i64 n26), (SV.slc 3 none b20), (SV.slc 4 none b21), (SV.int IntKind.i64 n27)]))), (some (HE.mk false (HB.exp (some 69) [(SV.ptr 6 0 0), (SV.slc 7 none b22)]))), (some (HE.mk false (HB.rows (B.u8 l17)))), (some (HE.mk false (HB.exp none [(SV.slc 3 none b23), (SV.slc 4 none b24)])))] KL = l_impl_PackMachine_wwwww_2 N n17 b15 n18 n19 b16 n20 l12 l13 l14 l15 l16 n22 b17 n23 b18 b19 s2 n24 n25 n26 b20 b21 n27 b23 b24 (fun b110 l118 => KL Ex.normal [(some (AV.sc (SV.ptr 5 0 0))), (some (AV.sc (SV.int IntKind.i64 n17))), (some (AV.sc (SV.ptr 6 0 0))), (some (AV.sc (SV.fn 37 [(6, (0, 0))]))), (some (AV.sc (SV.slc 8 (some (0, (2, 0))) b15))), (some (AV.sc (SV.int IntKind.i64 n18))), (some (AV.sc (SV.int IntKind.i64 n19)))] [(some (HE.mk false (HB.rows (B.i64 l12)))), (some (HE.mk false (HB.rows (B.i64 l13)))), (some (HE.mk false (HB.rows (B.i64 l14)))), (some (HE.mk false (HB.rows (B.iPortValue l15)))), (some (HE.mk false (HB.rows (B.iPortValue l16)))), (some (HE.mk false (HB.exp none [(SV.int IntKind.i64 n22), (SV.slc 0 none b17), (SV.int IntKind.i64 n23), (SV.slc 1 none b18), (SV.slc 2 none b19), (SV.str s2), (SV.int IntKind.i64 n24), (SV.int IntKind.i64 n25), (SV.int IntKind.i64 n26), (SV.slc 3 none b20), (SV.slc 4 none b21), (SV.int IntKind.i64 n27)]))), (some (HE.mk false (HB.exp (some 69) [(SV.ptr 6 0 0), (SV.slc 7 none b110)]))), (some (HE.mk false (HB.rows (B.u8 l118)))), (some (HE.mk false (HB.exp none [(SV.slc 3 none b23), (SV.slc 4 none b24)])))]) f n21 b22 l17 := by
  intro f
  induction f with
  | zero => intros; rfl
  | succ f ih =>
    intro n21 b22 l17
    rw [iterK_succ, se_impl_PackMachine_wwwww_2]
    exact (congrArg (fun z0 => s_impl_PackMachine_wwwww_2 N n17 b15 n18 n19 b16 n20 l12 l13 l14 l15 l16 n22 b17 n23 b18 b19 s2 n24 n25 n26 b20 b21 n27 b23 b24 n21 b22 l17 z0 (fun b110 l118 => KL Ex.normal [(some (AV.sc (SV.ptr 5 0 0))), (some (AV.sc (SV.int IntKind.i64 n17))), (some (AV.sc (SV.ptr 6 0 0))), (some (AV.sc (SV.fn 37 [(6, (0, 0))]))), (some (AV.sc (SV.slc 8 (some (0, (2, 0))) b15))), (some (AV.sc (SV.int IntKind.i64 n18))), (some (AV.sc (SV.int IntKind.i64 n19)))] [(some (HE.mk false (HB.rows (B.i64 l12)))), (some (HE.mk false (HB.rows (B.i64 l13)))), (some (HE.mk false (HB.rows (B.i64 l14)))), (some (HE.mk false (HB.rows (B.iPortValue l15)))), (some (HE.mk false (HB.rows (B.iPortValue l16)))), (some (HE.mk false (HB.exp none [(SV.int IntKind.i64 n22), (SV.slc 0 none b17), (SV.int IntKind.i64 n23), (SV.slc 1 none b18), (SV.slc 2 none b19), (SV.str s2), (SV.int IntKind.i64 n24), (SV.int IntKind.i64 n25), (SV.int IntKind.i64 n26), (SV.slc 3 none b20), (SV.slc 4 none b21), (SV.int IntKind.i64 n27)]))), (some (HE.mk false (HB.exp (some 69) [(SV.ptr 6 0 0), (SV.slc 7 none b110)]))), (some (HE.mk false (HB.rows (B.u8 l118)))), (some (HE.mk false (HB.exp none [(SV.slc 3 none b23), (SV.slc 4 none b24)])))])) (funext fun n21 => funext fun b22 => funext fun l17 => ih n21 b22 l17))
noncomputable def s_impl_PackMachine_wwwww_2b1 (N : Nat) {R : Type} (n28 : Int) (b27 : Bool) (n29 : Int) (n30 : Int) (b28 : Bool) (n31 : Int) (l21 : List Int) (l22 : List Int) (l23 : List Int) (l24 : List PortValue) (l25 : List PortValue) (n33 : Int) (b29 : Bool) (n34 : Int) (b30 : Bool) (b31 : Bool) (s3 : ByteArray) (n35 : Int) (n36 : Int) (n37 : Int) (b32 : Bool) (b33 : Bool) (n38 : Int) (b35 : Bool) (b36 : Bool) (n32 : Int) (b34 : Bool) (l26 : List Int) (ag : Int → Bool → (List Int) → Option R)  (kNb1 : Bool → (List Int) → Option R) : Option R :=
 (cond (decide ((n32 < n31)))
 (cond ((decide (((0 : Int) ≤ n32))) && (decide ((n32 < (((List.length l25) : Nat) : Int)))))
 (elemK l25 (Int.toNat n32) fun x1 =>
 (g_impl_PackMachine_1_wWw N false [(PortValue.fPort x1), (PortValue.fValue x1)] b34 l26 (
 (ag (IntKind.wrap IntKind.i64 (n32 + (1 : Int))) b34 l26)) (fun l27 b37 l28 =>
 (ag (IntKind.wrap IntKind.i64 (n32 + (1 : Int))) b37 l28))))
 none)
 (kNb1 b34 l26))
noncomputable def ga_s_impl_PackMachine_wwwww_2b1 (N : Nat) (G_impl_PutWord : ∀ {R : Type} (n : Int) (k : ByteArray → Option R), Option R) (G_impl_ymix : ∀ {R : Type} (s : ByteArray) (n : Int) (k : Int → Option R), Option R) (G_impl_yhasBit : ∀ {R : Type} (s : ByteArray) (n : Int) (k : Bool → Option R), Option R) (G_impl_yframeSet_Fimpl_PackMachine_2_Wwwwww : ∀ {R : Type} (n : Int) (n1 : Int) (b : Bool) (n2 : Int) (b1 : Bool) (b2 : Bool) (s : ByteArray) (n3 : Int) (n4 : Int) (n5 : Int) (b3 : Bool) (b4 : Bool) (n6 : Int) (l : List Int) (l1 : List Int) (l2 : List Int) (l3 : List PortValue) (l4 : List PortValue) (k : ByteArray → Option R), Option R) (G_impl_PackMachine_1_wWw : ∀ {R : Type} (b : Bool) (l : List Int) (b1 : Bool) (l1 : List Int) (k : Option R) (k_1 : (List Int) → Bool → (List Int) → Option R), Option R) (G_strings_Builder_WriteString_Ww : ∀ {R : Type} (s : ByteArray) (b : Bool) (l : List Int) (k : Int → Bool → (List Int) → Option R), Option R) (G_strings_Builder_WriteString_Ww_v1 : ∀ {R : Type} (s : ByteArray) (b : Bool) (l : List Int) (k : Int → Bool → (List Int) → Option R), Option R) (G_impl_MachineFault_wwwww : ∀ {R : Type} (n : Int) (b : Bool) (n1 : Int) (b1 : Bool) (b2 : Bool) (s : ByteArray) (n2 : Int) (n3 : Int) (n4 : Int) (b3 : Bool) (b4 : Bool) (n5 : Int) (l : List Int) (l1 : List Int) (l2 : List Int) (l3 : List PortValue) (l4 : List PortValue) (k : Int → Option R), Option R) {R : Type} (n28 : Int) (b27 : Bool) (n29 : Int) (n30 : Int) (b28 : Bool) (n31 : Int) (l21 : List Int) (l22 : List Int) (l23 : List Int) (l24 : List PortValue) (l25 : List PortValue) (n33 : Int) (b29 : Bool) (n34 : Int) (b30 : Bool) (b31 : Bool) (s3 : ByteArray) (n35 : Int) (n36 : Int) (n37 : Int) (b32 : Bool) (b33 : Bool) (n38 : Int) (b35 : Bool) (b36 : Bool) (n32 : Int) (b34 : Bool) (l26 : List Int) (ag : Int → Bool → (List Int) → Option R)  (kNb1 : Bool → (List Int) → Option R) : Option R :=
 (cond (decide ((n32 < n31)))
 (cond ((decide (((0 : Int) ≤ n32))) && (decide ((n32 < (((List.length l25) : Nat) : Int)))))
 (elemK l25 (Int.toNat n32) fun x1 =>
 (G_impl_PackMachine_1_wWw false [(PortValue.fPort x1), (PortValue.fValue x1)] b34 l26 (
 (ag (IntKind.wrap IntKind.i64 (n32 + (1 : Int))) b34 l26)) (fun l27 b37 l28 =>
 (ag (IntKind.wrap IntKind.i64 (n32 + (1 : Int))) b37 l28))))
 none)
 (kNb1 b34 l26))
noncomputable def l_impl_PackMachine_wwwww_2b1 (N : Nat) {R : Type} (n28 : Int) (b27 : Bool) (n29 : Int) (n30 : Int) (b28 : Bool) (n31 : Int) (l21 : List Int) (l22 : List Int) (l23 : List Int) (l24 : List PortValue) (l25 : List PortValue) (n33 : Int) (b29 : Bool) (n34 : Int) (b30 : Bool) (b31 : Bool) (s3 : ByteArray) (n35 : Int) (n36 : Int) (n37 : Int) (b32 : Bool) (b33 : Bool) (n38 : Int) (b35 : Bool) (b36 : Bool) (kNb1 : Bool → (List Int) → Option R) : Nat → Int → Bool → (List Int) → Option R
 | 0, _, _, _ => none
 | f + 1, n32, b34, l26 => s_impl_PackMachine_wwwww_2b1 N n28 b27 n29 n30 b28 n31 l21 l22 l23 l24 l25 n33 b29 n34 b30 b31 s3 n35 n36 n37 b32 b33 n38 b35 b36 n32 b34 l26 (fun n32 b34 l26 => l_impl_PackMachine_wwwww_2b1 N n28 b27 n29 n30 b28 n31 l21 l22 l23 l24 l25 n33 b29 n34 b30 b31 s3 n35 n36 n37 b32 b33 n38 b35 b36 kNb1 f n32 b34 l26)  kNb1
noncomputable def c_impl_PackMachine_wwwww_2b1 (N : Nat) {R : Type} (n28 : Int) (b27 : Bool) (n29 : Int) (n30 : Int) (b28 : Bool) (n31 : Int) (l21 : List Int) (l22 : List Int) (l23 : List Int) (l24 : List PortValue) (l25 : List PortValue) (n33 : Int) (b29 : Bool) (n34 : Int) (b30 : Bool) (b31 : Bool) (s3 : ByteArray) (n35 : Int) (n36 : Int) (n37 : Int) (b32 : Bool) (b33 : Bool) (n38 : Int) (b35 : Bool) (b36 : Bool) (n32 : Int) (b34 : Bool) (l26 : List Int) (kNb1 : Bool → (List Int) → Option R) : Option R := l_impl_PackMachine_wwwww_2b1 N n28 b27 n29 n30 b28 n31 l21 l22 l23 l24 l25 n33 b29 n34 b30 b31 s3 n35 n36 n37 b32 b33 n38 b35 b36 kNb1 N n32 b34 l26
theorem ea_se_impl_PackMachine_wwwww_2b1 (N : Nat) (G_impl_PutWord : ∀ {R : Type} (n : Int) (k : ByteArray → Option R), Option R) (G_impl_ymix : ∀ {R : Type} (s : ByteArray) (n : Int) (k : Int → Option R), Option R) (G_impl_yhasBit : ∀ {R : Type} (s : ByteArray) (n : Int) (k : Bool → Option R), Option R) (G_impl_yframeSet_Fimpl_PackMachine_2_Wwwwww : ∀ {R : Type} (n : Int) (n1 : Int) (b : Bool) (n2 : Int) (b1 : Bool) (b2 : Bool) (s : ByteArray) (n3 : Int) (n4 : Int) (n5 : Int) (b3 : Bool) (b4 : Bool) (n6 : Int) (l : List Int) (l1 : List Int) (l2 : List Int) (l3 : List PortValue) (l4 : List PortValue) (k : ByteArray → Option R), Option R) (G_impl_PackMachine_1_wWw : ∀ {R : Type} (b : Bool) (l : List Int) (b1 : Bool) (l1 : List Int) (k : Option R) (k_1 : (List Int) → Bool → (List Int) → Option R), Option R) (G_strings_Builder_WriteString_Ww : ∀ {R : Type} (s : ByteArray) (b : Bool) (l : List Int) (k : Int → Bool → (List Int) → Option R), Option R) (G_strings_Builder_WriteString_Ww_v1 : ∀ {R : Type} (s : ByteArray) (b : Bool) (l : List Int) (k : Int → Bool → (List Int) → Option R), Option R) (G_impl_MachineFault_wwwww : ∀ {R : Type} (n : Int) (b : Bool) (n1 : Int) (b1 : Bool) (b2 : Bool) (s : ByteArray) (n2 : Int) (n3 : Int) (n4 : Int) (b3 : Bool) (b4 : Bool) (n5 : Int) (l : List Int) (l1 : List Int) (l2 : List Int) (l3 : List PortValue) (l4 : List PortValue) (k : Int → Option R), Option R) {R : Type} (n28 : Int) (b27 : Bool) (n29 : Int) (n30 : Int) (b28 : Bool) (n31 : Int) (l21 : List Int) (l22 : List Int) (l23 : List Int) (l24 : List PortValue) (l25 : List PortValue) (n33 : Int) (b29 : Bool) (n34 : Int) (b30 : Bool) (b31 : Bool) (s3 : ByteArray) (n35 : Int) (n36 : Int) (n37 : Int) (b32 : Bool) (b33 : Bool) (n38 : Int) (b35 : Bool) (b36 : Bool) (n32 : Int) (b34 : Bool) (l26 : List Int) (AG : List (Option AV) → Hp E → Option R) (KL : Ex → List (Option AV) → Hp E → Option R) :
    iterStep (E := E) (OA_impl_PackMachine_wwwww N G_impl_PutWord G_impl_ymix G_impl_yhasBit G_impl_yframeSet_Fimpl_PackMachine_2_Wwwwww G_impl_PackMachine_1_wWw G_strings_Builder_WriteString_Ww G_strings_Builder_WriteString_Ww_v1 G_impl_MachineFault_wwwww) (fun {R} => LI (noIt) 5 116 sl_impl_PackMachine_wwwww (R := R)) J_impl_PackMachine_wwwww 5 116 2 [1, 3, 4, 5, 64, 65, 66, 70, 71, 72] [1, 3, 4, 5, 64, 65, 66] (body Try.f9 2) AG KL [(some (AV.sc (SV.ptr 5 0 0))), (some (AV.sc (SV.int IntKind.i64 n28))), (some (AV.sc (SV.ptr 6 0 0))), (some (AV.sc (SV.fn 37 [(6, (0, 0))]))), (some (AV.sc (SV.slc 8 (some (0, (2, 0))) b27))), (some (AV.sc (SV.int IntKind.i64 n29))), (some (AV.sc (SV.int IntKind.i64 n30))), (some (AV.sc (SV.slc 4 none b28))), (some (AV.sc (SV.int IntKind.i64 n31))), (some (AV.sc (SV.int IntKind.i64 n32)))] [(some (HE.mk false (HB.rows (B.i64 l21)))), (some (HE.mk false (HB.rows (B.i64 l22)))), (some (HE.mk false (HB.rows (B.i64 l23)))), (some (HE.mk false (HB.rows (B.iPortValue l24)))), (some (HE.mk false (HB.rows (B.iPortValue l25)))), (some (HE.mk false (HB.exp none [(SV.int IntKind.i64 n33), (SV.slc 0 none b29), (SV.int IntKind.i64 n34), (SV.slc 1 none b30), (SV.slc 2 none b31), (SV.str s3), (SV.int IntKind.i64 n35), (SV.int IntKind.i64 n36), (SV.int IntKind.i64 n37), (SV.slc 3 none b32), (SV.slc 4 none b33), (SV.int IntKind.i64 n38)]))), (some (HE.mk false (HB.exp (some 69) [(SV.ptr 6 0 0), (SV.slc 7 none b34)]))), (some (HE.mk false (HB.rows (B.u8 l26)))), (some (HE.mk false (HB.exp none [(SV.slc 3 none b35), (SV.slc 4 none b36)])))] =
      ga_s_impl_PackMachine_wwwww_2b1 N G_impl_PutWord G_impl_ymix G_impl_yhasBit G_impl_yframeSet_Fimpl_PackMachine_2_Wwwwww G_impl_PackMachine_1_wWw G_strings_Builder_WriteString_Ww G_strings_Builder_WriteString_Ww_v1 G_impl_MachineFault_wwwww n28 b27 n29 n30 b28 n31 l21 l22 l23 l24 l25 n33 b29 n34 b30 b31 s3 n35 n36 n37 b32 b33 n38 b35 b36 n32 b34 l26 (fun n32 b34 l26 => AG [(some (AV.sc (SV.ptr 5 0 0))), (some (AV.sc (SV.int IntKind.i64 n28))), (some (AV.sc (SV.ptr 6 0 0))), (some (AV.sc (SV.fn 37 [(6, (0, 0))]))), (some (AV.sc (SV.slc 8 (some (0, (2, 0))) b27))), (some (AV.sc (SV.int IntKind.i64 n29))), (some (AV.sc (SV.int IntKind.i64 n30))), (some (AV.sc (SV.slc 4 none b28))), (some (AV.sc (SV.int IntKind.i64 n31))), (some (AV.sc (SV.int IntKind.i64 n32)))] [(some (HE.mk false (HB.rows (B.i64 l21)))), (some (HE.mk false (HB.rows (B.i64 l22)))), (some (HE.mk false (HB.rows (B.i64 l23)))), (some (HE.mk false (HB.rows (B.iPortValue l24)))), (some (HE.mk false (HB.rows (B.iPortValue l25)))), (some (HE.mk false (HB.exp none [(SV.int IntKind.i64 n33), (SV.slc 0 none b29), (SV.int IntKind.i64 n34), (SV.slc 1 none b30), (SV.slc 2 none b31), (SV.str s3), (SV.int IntKind.i64 n35), (SV.int IntKind.i64 n36), (SV.int IntKind.i64 n37), (SV.slc 3 none b32), (SV.slc 4 none b33), (SV.int IntKind.i64 n38)]))), (some (HE.mk false (HB.exp (some 69) [(SV.ptr 6 0 0), (SV.slc 7 none b34)]))), (some (HE.mk false (HB.rows (B.u8 l26)))), (some (HE.mk false (HB.exp none [(SV.slc 3 none b35), (SV.slc 4 none b36)])))])  (fun b111 l119 => KL Ex.normal [(some (AV.sc (SV.ptr 5 0 0))), (some (AV.sc (SV.int IntKind.i64 n28))), (some (AV.sc (SV.ptr 6 0 0))), (some (AV.sc (SV.fn 37 [(6, (0, 0))]))), (some (AV.sc (SV.slc 8 (some (0, (2, 0))) b27))), (some (AV.sc (SV.int IntKind.i64 n29))), (some (AV.sc (SV.int IntKind.i64 n30)))] [(some (HE.mk false (HB.rows (B.i64 l21)))), (some (HE.mk false (HB.rows (B.i64 l22)))), (some (HE.mk false (HB.rows (B.i64 l23)))), (some (HE.mk false (HB.rows (B.iPortValue l24)))), (some (HE.mk false (HB.rows (B.iPortValue l25)))), (some (HE.mk false (HB.exp none [(SV.int IntKind.i64 n33), (SV.slc 0 none b29), (SV.int IntKind.i64 n34), (SV.slc 1 none b30), (SV.slc 2 none b31), (SV.str s3), (SV.int IntKind.i64 n35), (SV.int IntKind.i64 n36), (SV.int IntKind.i64 n37), (SV.slc 3 none b32), (SV.slc 4 none b33), (SV.int IntKind.i64 n38)]))), (some (HE.mk false (HB.exp (some 69) [(SV.ptr 6 0 0), (SV.slc 7 none b111)]))), (some (HE.mk false (HB.rows (B.u8 l119)))), (some (HE.mk false (HB.exp none [(SV.slc 3 none b35), (SV.slc 4 none b36)])))]) := by kernel_rfl
theorem se_impl_PackMachine_wwwww_2b1 (N : Nat) {R : Type} (n28 : Int) (b27 : Bool) (n29 : Int) (n30 : Int) (b28 : Bool) (n31 : Int) (l21 : List Int) (l22 : List Int) (l23 : List Int) (l24 : List PortValue) (l25 : List PortValue) (n33 : Int) (b29 : Bool) (n34 : Int) (b30 : Bool) (b31 : Bool) (s3 : ByteArray) (n35 : Int) (n36 : Int) (n37 : Int) (b32 : Bool) (b33 : Bool) (n38 : Int) (b35 : Bool) (b36 : Bool) (n32 : Int) (b34 : Bool) (l26 : List Int) (AG : List (Option AV) → Hp E → Option R) (KL : Ex → List (Option AV) → Hp E → Option R) :
    iterStep (E := E) (O_impl_PackMachine_wwwww N) (fun {R} => LI (noIt) 5 116 sl_impl_PackMachine_wwwww (R := R)) J_impl_PackMachine_wwwww 5 116 2 [1, 3, 4, 5, 64, 65, 66, 70, 71, 72] [1, 3, 4, 5, 64, 65, 66] (body Try.f9 2) AG KL [(some (AV.sc (SV.ptr 5 0 0))), (some (AV.sc (SV.int IntKind.i64 n28))), (some (AV.sc (SV.ptr 6 0 0))), (some (AV.sc (SV.fn 37 [(6, (0, 0))]))), (some (AV.sc (SV.slc 8 (some (0, (2, 0))) b27))), (some (AV.sc (SV.int IntKind.i64 n29))), (some (AV.sc (SV.int IntKind.i64 n30))), (some (AV.sc (SV.slc 4 none b28))), (some (AV.sc (SV.int IntKind.i64 n31))), (some (AV.sc (SV.int IntKind.i64 n32)))] [(some (HE.mk false (HB.rows (B.i64 l21)))), (some (HE.mk false (HB.rows (B.i64 l22)))), (some (HE.mk false (HB.rows (B.i64 l23)))), (some (HE.mk false (HB.rows (B.iPortValue l24)))), (some (HE.mk false (HB.rows (B.iPortValue l25)))), (some (HE.mk false (HB.exp none [(SV.int IntKind.i64 n33), (SV.slc 0 none b29), (SV.int IntKind.i64 n34), (SV.slc 1 none b30), (SV.slc 2 none b31), (SV.str s3), (SV.int IntKind.i64 n35), (SV.int IntKind.i64 n36), (SV.int IntKind.i64 n37), (SV.slc 3 none b32), (SV.slc 4 none b33), (SV.int IntKind.i64 n38)]))), (some (HE.mk false (HB.exp (some 69) [(SV.ptr 6 0 0), (SV.slc 7 none b34)]))), (some (HE.mk false (HB.rows (B.u8 l26)))), (some (HE.mk false (HB.exp none [(SV.slc 3 none b35), (SV.slc 4 none b36)])))] =
      s_impl_PackMachine_wwwww_2b1 N n28 b27 n29 n30 b28 n31 l21 l22 l23 l24 l25 n33 b29 n34 b30 b31 s3 n35 n36 n37 b32 b33 n38 b35 b36 n32 b34 l26 (fun n32 b34 l26 => AG [(some (AV.sc (SV.ptr 5 0 0))), (some (AV.sc (SV.int IntKind.i64 n28))), (some (AV.sc (SV.ptr 6 0 0))), (some (AV.sc (SV.fn 37 [(6, (0, 0))]))), (some (AV.sc (SV.slc 8 (some (0, (2, 0))) b27))), (some (AV.sc (SV.int IntKind.i64 n29))), (some (AV.sc (SV.int IntKind.i64 n30))), (some (AV.sc (SV.slc 4 none b28))), (some (AV.sc (SV.int IntKind.i64 n31))), (some (AV.sc (SV.int IntKind.i64 n32)))] [(some (HE.mk false (HB.rows (B.i64 l21)))), (some (HE.mk false (HB.rows (B.i64 l22)))), (some (HE.mk false (HB.rows (B.i64 l23)))), (some (HE.mk false (HB.rows (B.iPortValue l24)))), (some (HE.mk false (HB.rows (B.iPortValue l25)))), (some (HE.mk false (HB.exp none [(SV.int IntKind.i64 n33), (SV.slc 0 none b29), (SV.int IntKind.i64 n34), (SV.slc 1 none b30), (SV.slc 2 none b31), (SV.str s3), (SV.int IntKind.i64 n35), (SV.int IntKind.i64 n36), (SV.int IntKind.i64 n37), (SV.slc 3 none b32), (SV.slc 4 none b33), (SV.int IntKind.i64 n38)]))), (some (HE.mk false (HB.exp (some 69) [(SV.ptr 6 0 0), (SV.slc 7 none b34)]))), (some (HE.mk false (HB.rows (B.u8 l26)))), (some (HE.mk false (HB.exp none [(SV.slc 3 none b35), (SV.slc 4 none b36)])))])  (fun b111 l119 => KL Ex.normal [(some (AV.sc (SV.ptr 5 0 0))), (some (AV.sc (SV.int IntKind.i64 n28))), (some (AV.sc (SV.ptr 6 0 0))), (some (AV.sc (SV.fn 37 [(6, (0, 0))]))), (some (AV.sc (SV.slc 8 (some (0, (2, 0))) b27))), (some (AV.sc (SV.int IntKind.i64 n29))), (some (AV.sc (SV.int IntKind.i64 n30)))] [(some (HE.mk false (HB.rows (B.i64 l21)))), (some (HE.mk false (HB.rows (B.i64 l22)))), (some (HE.mk false (HB.rows (B.i64 l23)))), (some (HE.mk false (HB.rows (B.iPortValue l24)))), (some (HE.mk false (HB.rows (B.iPortValue l25)))), (some (HE.mk false (HB.exp none [(SV.int IntKind.i64 n33), (SV.slc 0 none b29), (SV.int IntKind.i64 n34), (SV.slc 1 none b30), (SV.slc 2 none b31), (SV.str s3), (SV.int IntKind.i64 n35), (SV.int IntKind.i64 n36), (SV.int IntKind.i64 n37), (SV.slc 3 none b32), (SV.slc 4 none b33), (SV.int IntKind.i64 n38)]))), (some (HE.mk false (HB.exp (some 69) [(SV.ptr 6 0 0), (SV.slc 7 none b111)]))), (some (HE.mk false (HB.rows (B.u8 l119)))), (some (HE.mk false (HB.exp none [(SV.slc 3 none b35), (SV.slc 4 none b36)])))]) := castPr (by kernel_rfl) (ea_se_impl_PackMachine_wwwww_2b1 N (g_impl_PutWord N) (g_impl_ymix N) (g_impl_yhasBit N) (g_impl_yframeSet_Fimpl_PackMachine_2_Wwwwww N) (g_impl_PackMachine_1_wWw N) (g_strings_Builder_WriteString_Ww N) (g_strings_Builder_WriteString_Ww_v1 N) (g_impl_MachineFault_wwwww N) n28 b27 n29 n30 b28 n31 l21 l22 l23 l24 l25 n33 b29 n34 b30 b31 s3 n35 n36 n37 b32 b33 n38 b35 b36 n32 b34 l26 AG KL)
theorem le_impl_PackMachine_wwwww_2b1 (N : Nat) {R : Type} (n28 : Int) (b27 : Bool) (n29 : Int) (n30 : Int) (b28 : Bool) (n31 : Int) (l21 : List Int) (l22 : List Int) (l23 : List Int) (l24 : List PortValue) (l25 : List PortValue) (n33 : Int) (b29 : Bool) (n34 : Int) (b30 : Bool) (b31 : Bool) (s3 : ByteArray) (n35 : Int) (n36 : Int) (n37 : Int) (b32 : Bool) (b33 : Bool) (n38 : Int) (b35 : Bool) (b36 : Bool) (KL : Ex → List (Option AV) → Hp E → Option R) : ∀ (f : Nat), ∀ (n32 : Int) (b34 : Bool) (l26 : List Int), iterK (E := E) (O_impl_PackMachine_wwwww N) (fun {R} => LI (noIt) 5 116 sl_impl_PackMachine_wwwww (R := R)) J_impl_PackMachine_wwwww 5 116 2 [1, 3, 4, 5, 64, 65, 66, 70, 71, 72] [1, 3, 4, 5, 64, 65, 66] (body Try.f9 2) f [(some (AV.sc (SV.ptr 5 0 0))), (some (AV.sc (SV.int IntKind.i64 n28))), (some (AV.sc (SV.ptr 6 0 0))), (some (AV.sc (SV.fn 37 [(6, (0, 0))]))), (some (AV.sc (SV.slc 8 (some (0, (2, 0))) b27))), (some (AV.sc (SV.int IntKind.i64 n29))), (some (AV.sc (SV.int IntKind.i64 n30))), (some (AV.sc (SV.slc 4 none b28))), (some (AV.sc (SV.int IntKind.i64 n31))), (some (AV.sc (SV.int IntKind.i64 n32)))] [(some (HE.mk false (HB.rows (B.i64 l21)))), (some (HE.mk false (HB.rows (B.i64 l22)))), (some (HE.mk false (HB.rows (B.i64 l23)))), (some (HE.mk false (HB.rows (B.iPortValue l24)))), (some (HE.mk false (HB.rows (B.iPortValue l25)))), (some (HE.mk false (HB.exp none [(SV.int IntKind.i64 n33), (SV.slc 0 none b29), (SV.int IntKind.i64 n34), (SV.slc 1 none b30), (SV.slc 2 none b31), (SV.str s3), (SV.int IntKind.i64 n35), (SV.int IntKind.i64 n36), (SV.int IntKind.i64 n37), (SV.slc 3 none b32), (SV.slc 4 none b33), (SV.int IntKind.i64 n38)]))), (some (HE.mk false (HB.exp (some 69) [(SV.ptr 6 0 0), (SV.slc 7 none b34)]))), (some (HE.mk false (HB.rows (B.u8 l26)))), (some (HE.mk false (HB.exp none [(SV.slc 3 none b35), (SV.slc 4 none b36)])))] KL = l_impl_PackMachine_wwwww_2b1 N n28 b27 n29 n30 b28 n31 l21 l22 l23 l24 l25 n33 b29 n34 b30 b31 s3 n35 n36 n37 b32 b33 n38 b35 b36 (fun b111 l119 => KL Ex.normal [(some (AV.sc (SV.ptr 5 0 0))), (some (AV.sc (SV.int IntKind.i64 n28))), (some (AV.sc (SV.ptr 6 0 0))), (some (AV.sc (SV.fn 37 [(6, (0, 0))]))), (some (AV.sc (SV.slc 8 (some (0, (2, 0))) b27))), (some (AV.sc (SV.int IntKind.i64 n29))), (some (AV.sc (SV.int IntKind.i64 n30)))] [(some (HE.mk false (HB.rows (B.i64 l21)))), (some (HE.mk false (HB.rows (B.i64 l22)))), (some (HE.mk false (HB.rows (B.i64 l23)))), (some (HE.mk false (HB.rows (B.iPortValue l24)))), (some (HE.mk false (HB.rows (B.iPortValue l25)))), (some (HE.mk false (HB.exp none [(SV.int IntKind.i64 n33), (SV.slc 0 none b29), (SV.int IntKind.i64 n34), (SV.slc 1 none b30), (SV.slc 2 none b31), (SV.str s3), (SV.int IntKind.i64 n35), (SV.int IntKind.i64 n36), (SV.int IntKind.i64 n37), (SV.slc 3 none b32), (SV.slc 4 none b33), (SV.int IntKind.i64 n38)]))), (some (HE.mk false (HB.exp (some 69) [(SV.ptr 6 0 0), (SV.slc 7 none b111)]))), (some (HE.mk false (HB.rows (B.u8 l119)))), (some (HE.mk false (HB.exp none [(SV.slc 3 none b35), (SV.slc 4 none b36)])))]) f n32 b34 l26 := by
  intro f
  induction f with
  | zero => intros; rfl
  | succ f ih =>
    intro n32 b34 l26
    rw [iterK_succ, se_impl_PackMachine_wwwww_2b1]
    exact (congrArg (fun z0 => s_impl_PackMachine_wwwww_2b1 N n28 b27 n29 n30 b28 n31 l21 l22 l23 l24 l25 n33 b29 n34 b30 b31 s3 n35 n36 n37 b32 b33 n38 b35 b36 n32 b34 l26 z0 (fun b111 l119 => KL Ex.normal [(some (AV.sc (SV.ptr 5 0 0))), (some (AV.sc (SV.int IntKind.i64 n28))), (some (AV.sc (SV.ptr 6 0 0))), (some (AV.sc (SV.fn 37 [(6, (0, 0))]))), (some (AV.sc (SV.slc 8 (some (0, (2, 0))) b27))), (some (AV.sc (SV.int IntKind.i64 n29))), (some (AV.sc (SV.int IntKind.i64 n30)))] [(some (HE.mk false (HB.rows (B.i64 l21)))), (some (HE.mk false (HB.rows (B.i64 l22)))), (some (HE.mk false (HB.rows (B.i64 l23)))), (some (HE.mk false (HB.rows (B.iPortValue l24)))), (some (HE.mk false (HB.rows (B.iPortValue l25)))), (some (HE.mk false (HB.exp none [(SV.int IntKind.i64 n33), (SV.slc 0 none b29), (SV.int IntKind.i64 n34), (SV.slc 1 none b30), (SV.slc 2 none b31), (SV.str s3), (SV.int IntKind.i64 n35), (SV.int IntKind.i64 n36), (SV.int IntKind.i64 n37), (SV.slc 3 none b32), (SV.slc 4 none b33), (SV.int IntKind.i64 n38)]))), (some (HE.mk false (HB.exp (some 69) [(SV.ptr 6 0 0), (SV.slc 7 none b111)]))), (some (HE.mk false (HB.rows (B.u8 l119)))), (some (HE.mk false (HB.exp none [(SV.slc 3 none b35), (SV.slc 4 none b36)])))])) (funext fun n32 => funext fun b34 => funext fun l26 => ih n32 b34 l26))
noncomputable def i_impl_PackMachine_wwwww_2 (N : Nat) {R : Type} (vs : List (Option AV)) (H : Hp E) (KL : Ex → List (Option AV) → Hp E → Option R) : Option R :=
 match vs, H with
 | [(some (AV.sc (SV.ptr 5 0 0))), (some (AV.sc (SV.int IntKind.i64 n17))), (some (AV.sc (SV.ptr 6 0 0))), (some (AV.sc (SV.fn 37 [(6, (0, 0))]))), (some (AV.sc (SV.slc 8 (some (0, (2, 0))) b15))), (some (AV.sc (SV.int IntKind.i64 n18))), (some (AV.sc (SV.int IntKind.i64 n19))), (some (AV.sc (SV.slc 3 none b16))), (some (AV.sc (SV.int IntKind.i64 n20))), (some (AV.sc (SV.int IntKind.i64 n21)))], [(some (HE.mk false (HB.rows (B.i64 l12)))), (some (HE.mk false (HB.rows (B.i64 l13)))), (some (HE.mk false (HB.rows (B.i64 l14)))), (some (HE.mk false (HB.rows (B.iPortValue l15)))), (some (HE.mk false (HB.rows (B.iPortValue l16)))), (some (HE.mk false (HB.exp none [(SV.int IntKind.i64 n22), (SV.slc 0 none b17), (SV.int IntKind.i64 n23), (SV.slc 1 none b18), (SV.slc 2 none b19), (SV.str s2), (SV.int IntKind.i64 n24), (SV.int IntKind.i64 n25), (SV.int IntKind.i64 n26), (SV.slc 3 none b20), (SV.slc 4 none b21), (SV.int IntKind.i64 n27)]))), (some (HE.mk false (HB.exp (some 69) [(SV.ptr 6 0 0), (SV.slc 7 none b22)]))), (some (HE.mk false (HB.rows (B.u8 l17)))), (some (HE.mk false (HB.exp none [(SV.slc 3 none b23), (SV.slc 4 none b24)])))] => c_impl_PackMachine_wwwww_2 N n17 b15 n18 n19 b16 n20 l12 l13 l14 l15 l16 n22 b17 n23 b18 b19 s2 n24 n25 n26 b20 b21 n27 b23 b24 n21 b22 l17 (fun b112 l120 => KL Ex.normal [(some (AV.sc (SV.ptr 5 0 0))), (some (AV.sc (SV.int IntKind.i64 n17))), (some (AV.sc (SV.ptr 6 0 0))), (some (AV.sc (SV.fn 37 [(6, (0, 0))]))), (some (AV.sc (SV.slc 8 (some (0, (2, 0))) b15))), (some (AV.sc (SV.int IntKind.i64 n18))), (some (AV.sc (SV.int IntKind.i64 n19)))] [(some (HE.mk false (HB.rows (B.i64 l12)))), (some (HE.mk false (HB.rows (B.i64 l13)))), (some (HE.mk false (HB.rows (B.i64 l14)))), (some (HE.mk false (HB.rows (B.iPortValue l15)))), (some (HE.mk false (HB.rows (B.iPortValue l16)))), (some (HE.mk false (HB.exp none [(SV.int IntKind.i64 n22), (SV.slc 0 none b17), (SV.int IntKind.i64 n23), (SV.slc 1 none b18), (SV.slc 2 none b19), (SV.str s2), (SV.int IntKind.i64 n24), (SV.int IntKind.i64 n25), (SV.int IntKind.i64 n26), (SV.slc 3 none b20), (SV.slc 4 none b21), (SV.int IntKind.i64 n27)]))), (some (HE.mk false (HB.exp (some 69) [(SV.ptr 6 0 0), (SV.slc 7 none b112)]))), (some (HE.mk false (HB.rows (B.u8 l120)))), (some (HE.mk false (HB.exp none [(SV.slc 3 none b23), (SV.slc 4 none b24)])))])
 | [(some (AV.sc (SV.ptr 5 0 0))), (some (AV.sc (SV.int IntKind.i64 n28))), (some (AV.sc (SV.ptr 6 0 0))), (some (AV.sc (SV.fn 37 [(6, (0, 0))]))), (some (AV.sc (SV.slc 8 (some (0, (2, 0))) b27))), (some (AV.sc (SV.int IntKind.i64 n29))), (some (AV.sc (SV.int IntKind.i64 n30))), (some (AV.sc (SV.slc 4 none b28))), (some (AV.sc (SV.int IntKind.i64 n31))), (some (AV.sc (SV.int IntKind.i64 n32)))], [(some (HE.mk false (HB.rows (B.i64 l21)))), (some (HE.mk false (HB.rows (B.i64 l22)))), (some (HE.mk false (HB.rows (B.i64 l23)))), (some (HE.mk false (HB.rows (B.iPortValue l24)))), (some (HE.mk false (HB.rows (B.iPortValue l25)))), (some (HE.mk false (HB.exp none [(SV.int IntKind.i64 n33), (SV.slc 0 none b29), (SV.int IntKind.i64 n34), (SV.slc 1 none b30), (SV.slc 2 none b31), (SV.str s3), (SV.int IntKind.i64 n35), (SV.int IntKind.i64 n36), (SV.int IntKind.i64 n37), (SV.slc 3 none b32), (SV.slc 4 none b33), (SV.int IntKind.i64 n38)]))), (some (HE.mk false (HB.exp (some 69) [(SV.ptr 6 0 0), (SV.slc 7 none b34)]))), (some (HE.mk false (HB.rows (B.u8 l26)))), (some (HE.mk false (HB.exp none [(SV.slc 3 none b35), (SV.slc 4 none b36)])))] => c_impl_PackMachine_wwwww_2b1 N n28 b27 n29 n30 b28 n31 l21 l22 l23 l24 l25 n33 b29 n34 b30 b31 s3 n35 n36 n37 b32 b33 n38 b35 b36 n32 b34 l26 (fun b113 l121 => KL Ex.normal [(some (AV.sc (SV.ptr 5 0 0))), (some (AV.sc (SV.int IntKind.i64 n28))), (some (AV.sc (SV.ptr 6 0 0))), (some (AV.sc (SV.fn 37 [(6, (0, 0))]))), (some (AV.sc (SV.slc 8 (some (0, (2, 0))) b27))), (some (AV.sc (SV.int IntKind.i64 n29))), (some (AV.sc (SV.int IntKind.i64 n30)))] [(some (HE.mk false (HB.rows (B.i64 l21)))), (some (HE.mk false (HB.rows (B.i64 l22)))), (some (HE.mk false (HB.rows (B.i64 l23)))), (some (HE.mk false (HB.rows (B.iPortValue l24)))), (some (HE.mk false (HB.rows (B.iPortValue l25)))), (some (HE.mk false (HB.exp none [(SV.int IntKind.i64 n33), (SV.slc 0 none b29), (SV.int IntKind.i64 n34), (SV.slc 1 none b30), (SV.slc 2 none b31), (SV.str s3), (SV.int IntKind.i64 n35), (SV.int IntKind.i64 n36), (SV.int IntKind.i64 n37), (SV.slc 3 none b32), (SV.slc 4 none b33), (SV.int IntKind.i64 n38)]))), (some (HE.mk false (HB.exp (some 69) [(SV.ptr 6 0 0), (SV.slc 7 none b113)]))), (some (HE.mk false (HB.rows (B.u8 l121)))), (some (HE.mk false (HB.exp none [(SV.slc 3 none b35), (SV.slc 4 none b36)])))])
 | _, _ => none
noncomputable def IT_impl_PackMachine_wwwww_2 (N : Nat) : Its E := addIt 2 (i_impl_PackMachine_wwwww_2 N) (noIt)
theorem IT_impl_PackMachine_wwwww_2_ok (N : Nat) : ItOk (IT_impl_PackMachine_wwwww_2 N) 5 116 sl_impl_PackMachine_wwwww (lsB Try.f9 [2]) :=
  addItB_ok (inner := []) ok (O_impl_PackMachine_wwwww_ok N) (jn_ok _ _ _) (noIt_ok) rfl (by kernel_rfl) rfl fun vs H KL r h => by
    unfold i_impl_PackMachine_wwwww_2 at h
    split at h
    · exact ⟨_, (le_impl_PackMachine_wwwww_2 N _ _ _ _ _ _ _ _ _ _ _ _ _ _ _ _ _ _ _ _ _ _ _ _ _ KL N _ _ _).trans h⟩
    · exact ⟨_, (le_impl_PackMachine_wwwww_2b1 N _ _ _ _ _ _ _ _ _ _ _ _ _ _ _ _ _ _ _ _ _ _ _ _ _ KL N _ _ _).trans h⟩
    · cases h
noncomputable def s_impl_PackMachine_wwwww_0 (N : Nat) {R : Type} (n8 : Int) (b6 : Bool) (n9 : Int) (l6 : List Int) (l7 : List Int) (l8 : List Int) (l9 : List PortValue) (l10 : List PortValue) (n11 : Int) (b7 : Bool) (n12 : Int) (b8 : Bool) (b9 : Bool) (s1 : ByteArray) (n13 : Int) (n14 : Int) (n15 : Int) (b10 : Bool) (b11 : Bool) (n16 : Int) (b13 : Bool) (b14 : Bool) (n10 : Int) (b12 : Bool) (l11 : List Int) (ag : Int → Bool → (List Int) → Option R)  (kN : Bool → (List Int) → Option R) : Option R :=
 (cond (decide ((n10 < n9)))
 (cond (decide ((n10 = (0 : Int))))
 (c_impl_PackMachine_wwwww_2 N n8 b6 n9 n10 b13 (((List.length l9) : Nat) : Int) l6 l7 l8 l9 l10 n11 b7 n12 b8 b9 s1 n13 n14 n15 b10 b11 n16 b13 b14 (0 : Int) b12 l11 fun b26 l20 =>
 (ag (IntKind.wrap IntKind.i64 (n10 + (1 : Int))) b26 l20))
 (cond (decide ((n10 = (1 : Int))))
 (c_impl_PackMachine_wwwww_2b1 N n8 b6 n9 n10 b14 (((List.length l10) : Nat) : Int) l6 l7 l8 l9 l10 n11 b7 n12 b8 b9 s1 n13 n14 n15 b10 b11 n16 b13 b14 (0 : Int) b12 l11 fun b38 l29 =>
 (ag (IntKind.wrap IntKind.i64 (n10 + (1 : Int))) b38 l29))
 none))
 (kN b12 l11))
noncomputable def ga_s_impl_PackMachine_wwwww_0 (N : Nat) (G_impl_PutWord : ∀ {R : Type} (n : Int) (k : ByteArray → Option R), Option R) (G_impl_ymix : ∀ {R : Type} (s : ByteArray) (n : Int) (k : Int → Option R), Option R) (G_impl_yhasBit : ∀ {R : Type} (s : ByteArray) (n : Int) (k : Bool → Option R), Option R) (G_impl_yframeSet_Fimpl_PackMachine_2_Wwwwww : ∀ {R : Type} (n : Int) (n1 : Int) (b : Bool) (n2 : Int) (b1 : Bool) (b2 : Bool) (s : ByteArray) (n3 : Int) (n4 : Int) (n5 : Int) (b3 : Bool) (b4 : Bool) (n6 : Int) (l : List Int) (l1 : List Int) (l2 : List Int) (l3 : List PortValue) (l4 : List PortValue) (k : ByteArray → Option R), Option R) (G_impl_PackMachine_1_wWw : ∀ {R : Type} (b : Bool) (l : List Int) (b1 : Bool) (l1 : List Int) (k : Option R) (k_1 : (List Int) → Bool → (List Int) → Option R), Option R) (G_strings_Builder_WriteString_Ww : ∀ {R : Type} (s : ByteArray) (b : Bool) (l : List Int) (k : Int → Bool → (List Int) → Option R), Option R) (G_strings_Builder_WriteString_Ww_v1 : ∀ {R : Type} (s : ByteArray) (b : Bool) (l : List Int) (k : Int → Bool → (List Int) → Option R), Option R) (G_impl_MachineFault_wwwww : ∀ {R : Type} (n : Int) (b : Bool) (n1 : Int) (b1 : Bool) (b2 : Bool) (s : ByteArray) (n2 : Int) (n3 : Int) (n4 : Int) (b3 : Bool) (b4 : Bool) (n5 : Int) (l : List Int) (l1 : List Int) (l2 : List Int) (l3 : List PortValue) (l4 : List PortValue) (k : Int → Option R), Option R) {R : Type} (n8 : Int) (b6 : Bool) (n9 : Int) (l6 : List Int) (l7 : List Int) (l8 : List Int) (l9 : List PortValue) (l10 : List PortValue) (n11 : Int) (b7 : Bool) (n12 : Int) (b8 : Bool) (b9 : Bool) (s1 : ByteArray) (n13 : Int) (n14 : Int) (n15 : Int) (b10 : Bool) (b11 : Bool) (n16 : Int) (b13 : Bool) (b14 : Bool) (n10 : Int) (b12 : Bool) (l11 : List Int) (ag : Int → Bool → (List Int) → Option R)  (kN : Bool → (List Int) → Option R) : Option R :=
 (cond (decide ((n10 < n9)))
 (cond (decide ((n10 = (0 : Int))))
 (c_impl_PackMachine_wwwww_2 N n8 b6 n9 n10 b13 (((List.length l9) : Nat) : Int) l6 l7 l8 l9 l10 n11 b7 n12 b8 b9 s1 n13 n14 n15 b10 b11 n16 b13 b14 (0 : Int) b12 l11 fun b26 l20 =>
 (ag (IntKind.wrap IntKind.i64 (n10 + (1 : Int))) b26 l20))
 (cond (decide ((n10 = (1 : Int))))
 (c_impl_PackMachine_wwwww_2b1 N n8 b6 n9 n10 b14 (((List.length l10) : Nat) : Int) l6 l7 l8 l9 l10 n11 b7 n12 b8 b9 s1 n13 n14 n15 b10 b11 n16 b13 b14 (0 : Int) b12 l11 fun b38 l29 =>
 (ag (IntKind.wrap IntKind.i64 (n10 + (1 : Int))) b38 l29))
 none))
 (kN b12 l11))
noncomputable def l_impl_PackMachine_wwwww_0 (N : Nat) {R : Type} (n8 : Int) (b6 : Bool) (n9 : Int) (l6 : List Int) (l7 : List Int) (l8 : List Int) (l9 : List PortValue) (l10 : List PortValue) (n11 : Int) (b7 : Bool) (n12 : Int) (b8 : Bool) (b9 : Bool) (s1 : ByteArray) (n13 : Int) (n14 : Int) (n15 : Int) (b10 : Bool) (b11 : Bool) (n16 : Int) (b13 : Bool) (b14 : Bool) (kN : Bool → (List Int) → Option R) : Nat → Int → Bool → (List Int) → Option R
 | 0, _, _, _ => none
 | f + 1, n10, b12, l11 => s_impl_PackMachine_wwwww_0 N n8 b6 n9 l6 l7 l8 l9 l10 n11 b7 n12 b8 b9 s1 n13 n14 n15 b10 b11 n16 b13 b14 n10 b12 l11 (fun n10 b12 l11 => l_impl_PackMachine_wwwww_0 N n8 b6 n9 l6 l7 l8 l9 l10 n11 b7 n12 b8 b9 s1 n13 n14 n15 b10 b11 n16 b13 b14 kN f n10 b12 l11)  kN
noncomputable def c_impl_PackMachine_wwwww_0 (N : Nat) {R : Type} (n8 : Int) (b6 : Bool) (n9 : Int) (l6 : List Int) (l7 : List Int) (l8 : List Int) (l9 : List PortValue) (l10 : List PortValue) (n11 : Int) (b7 : Bool) (n12 : Int) (b8 : Bool) (b9 : Bool) (s1 : ByteArray) (n13 : Int) (n14 : Int) (n15 : Int) (b10 : Bool) (b11 : Bool) (n16 : Int) (b13 : Bool) (b14 : Bool) (n10 : Int) (b12 : Bool) (l11 : List Int) (kN : Bool → (List Int) → Option R) : Option R := l_impl_PackMachine_wwwww_0 N n8 b6 n9 l6 l7 l8 l9 l10 n11 b7 n12 b8 b9 s1 n13 n14 n15 b10 b11 n16 b13 b14 kN N n10 b12 l11
theorem ea_se_impl_PackMachine_wwwww_0 (N : Nat) (G_impl_PutWord : ∀ {R : Type} (n : Int) (k : ByteArray → Option R), Option R) (G_impl_ymix : ∀ {R : Type} (s : ByteArray) (n : Int) (k : Int → Option R), Option R) (G_impl_yhasBit : ∀ {R : Type} (s : ByteArray) (n : Int) (k : Bool → Option R), Option R) (G_impl_yframeSet_Fimpl_PackMachine_2_Wwwwww : ∀ {R : Type} (n : Int) (n1 : Int) (b : Bool) (n2 : Int) (b1 : Bool) (b2 : Bool) (s : ByteArray) (n3 : Int) (n4 : Int) (n5 : Int) (b3 : Bool) (b4 : Bool) (n6 : Int) (l : List Int) (l1 : List Int) (l2 : List Int) (l3 : List PortValue) (l4 : List PortValue) (k : ByteArray → Option R), Option R) (G_impl_PackMachine_1_wWw : ∀ {R : Type} (b : Bool) (l : List Int) (b1 : Bool) (l1 : List Int) (k : Option R) (k_1 : (List Int) → Bool → (List Int) → Option R), Option R) (G_strings_Builder_WriteString_Ww : ∀ {R : Type} (s : ByteArray) (b : Bool) (l : List Int) (k : Int → Bool → (List Int) → Option R), Option R) (G_strings_Builder_WriteString_Ww_v1 : ∀ {R : Type} (s : ByteArray) (b : Bool) (l : List Int) (k : Int → Bool → (List Int) → Option R), Option R) (G_impl_MachineFault_wwwww : ∀ {R : Type} (n : Int) (b : Bool) (n1 : Int) (b1 : Bool) (b2 : Bool) (s : ByteArray) (n2 : Int) (n3 : Int) (n4 : Int) (b3 : Bool) (b4 : Bool) (n5 : Int) (l : List Int) (l1 : List Int) (l2 : List Int) (l3 : List PortValue) (l4 : List PortValue) (k : Int → Option R), Option R) {R : Type} (n8 : Int) (b6 : Bool) (n9 : Int) (l6 : List Int) (l7 : List Int) (l8 : List Int) (l9 : List PortValue) (l10 : List PortValue) (n11 : Int) (b7 : Bool) (n12 : Int) (b8 : Bool) (b9 : Bool) (s1 : ByteArray) (n13 : Int) (n14 : Int) (n15 : Int) (b10 : Bool) (b11 : Bool) (n16 : Int) (b13 : Bool) (b14 : Bool) (n10 : Int) (b12 : Bool) (l11 : List Int) (AG : List (Option AV) → Hp E → Option R) (KL : Ex → List (Option AV) → Hp E → Option R) :
    iterStep (E := E) (OA_impl_PackMachine_wwwww N G_impl_PutWord G_impl_ymix G_impl_yhasBit G_impl_yframeSet_Fimpl_PackMachine_2_Wwwwww G_impl_PackMachine_1_wWw G_strings_Builder_WriteString_Ww G_strings_Builder_WriteString_Ww_v1 G_impl_MachineFault_wwwww) (fun {R} => LI (IT_impl_PackMachine_wwwww_2 N) 5 116 sl_impl_PackMachine_wwwww (R := R)) J_impl_PackMachine_wwwww 5 116 0 [1, 3, 4, 5, 64, 65, 66] [1, 3, 4] (body Try.f9 0) AG KL [(some (AV.sc (SV.ptr 5 0 0))), (some (AV.sc (SV.int IntKind.i64 n8))), (some (AV.sc (SV.ptr 6 0 0))), (some (AV.sc (SV.fn 37 [(6, (0, 0))]))), (some (AV.sc (SV.slc 8 (some (0, (2, 0))) b6))), (some (AV.sc (SV.int IntKind.i64 n9))), (some (AV.sc (SV.int IntKind.i64 n10)))] [(some (HE.mk false (HB.rows (B.i64 l6)))), (some (HE.mk false (HB.rows (B.i64 l7)))), (some (HE.mk false (HB.rows (B.i64 l8)))), (some (HE.mk false (HB.rows (B.iPortValue l9)))), (some (HE.mk false (HB.rows (B.iPortValue l10)))), (some (HE.mk false (HB.exp none [(SV.int IntKind.i64 n11), (SV.slc 0 none b7), (SV.int IntKind.i64 n12), (SV.slc 1 none b8), (SV.slc 2 none b9), (SV.str s1), (SV.int IntKind.i64 n13), (SV.int IntKind.i64 n14), (SV.int IntKind.i64 n15), (SV.slc 3 none b10), (SV.slc 4 none b11), (SV.int IntKind.i64 n16)]))), (some (HE.mk false (HB.exp (some 69) [(SV.ptr 6 0 0), (SV.slc 7 none b12)]))), (some (HE.mk false (HB.rows (B.u8 l11)))), (some (HE.mk false (HB.exp none [(SV.slc 3 none b13), (SV.slc 4 none b14)])))] =
      ga_s_impl_PackMachine_wwwww_0 N G_impl_PutWord G_impl_ymix G_impl_yhasBit G_impl_yframeSet_Fimpl_PackMachine_2_Wwwwww G_impl_PackMachine_1_wWw G_strings_Builder_WriteString_Ww G_strings_Builder_WriteString_Ww_v1 G_impl_MachineFault_wwwww n8 b6 n9 l6 l7 l8 l9 l10 n11 b7 n12 b8 b9 s1 n13 n14 n15 b10 b11 n16 b13 b14 n10 b12 l11 (fun n10 b12 l11 => AG [(some (AV.sc (SV.ptr 5 0 0))), (some (AV.sc (SV.int IntKind.i64 n8))), (some (AV.sc (SV.ptr 6 0 0))), (some (AV.sc (SV.fn 37 [(6, (0, 0))]))), (some (AV.sc (SV.slc 8 (some (0, (2, 0))) b6))), (some (AV.sc (SV.int IntKind.i64 n9))), (some (AV.sc (SV.int IntKind.i64 n10)))] [(some (HE.mk false (HB.rows (B.i64 l6)))), (some (HE.mk false (HB.rows (B.i64 l7)))), (some (HE.mk false (HB.rows (B.i64 l8)))), (some (HE.mk false (HB.rows (B.iPortValue l9)))), (some (HE.mk false (HB.rows (B.iPortValue l10)))), (some (HE.mk false (HB.exp none [(SV.int IntKind.i64 n11), (SV.slc 0 none b7), (SV.int IntKind.i64 n12), (SV.slc 1 none b8), (SV.slc 2 none b9), (SV.str s1), (SV.int IntKind.i64 n13), (SV.int IntKind.i64 n14), (SV.int IntKind.i64 n15), (SV.slc 3 none b10), (SV.slc 4 none b11), (SV.int IntKind.i64 n16)]))), (some (HE.mk false (HB.exp (some 69) [(SV.ptr 6 0 0), (SV.slc 7 none b12)]))), (some (HE.mk false (HB.rows (B.u8 l11)))), (some (HE.mk false (HB.exp none [(SV.slc 3 none b13), (SV.slc 4 none b14)])))])  (fun b114 l122 => KL Ex.normal [(some (AV.sc (SV.ptr 5 0 0))), (some (AV.sc (SV.int IntKind.i64 n8))), (some (AV.sc (SV.ptr 6 0 0)))] [(some (HE.mk false (HB.rows (B.i64 l6)))), (some (HE.mk false (HB.rows (B.i64 l7)))), (some (HE.mk false (HB.rows (B.i64 l8)))), (some (HE.mk false (HB.rows (B.iPortValue l9)))), (some (HE.mk false (HB.rows (B.iPortValue l10)))), (some (HE.mk false (HB.exp none [(SV.int IntKind.i64 n11), (SV.slc 0 none b7), (SV.int IntKind.i64 n12), (SV.slc 1 none b8), (SV.slc 2 none b9), (SV.str s1), (SV.int IntKind.i64 n13), (SV.int IntKind.i64 n14), (SV.int IntKind.i64 n15), (SV.slc 3 none b10), (SV.slc 4 none b11), (SV.int IntKind.i64 n16)]))), (some (HE.mk false (HB.exp (some 69) [(SV.ptr 6 0 0), (SV.slc 7 none b114)]))), (some (HE.mk false (HB.rows (B.u8 l122))))]) := by kernel_rfl
theorem se_impl_PackMachine_wwwww_0 (N : Nat) {R : Type} (n8 : Int) (b6 : Bool) (n9 : Int) (l6 : List Int) (l7 : List Int) (l8 : List Int) (l9 : List PortValue) (l10 : List PortValue) (n11 : Int) (b7 : Bool) (n12 : Int) (b8 : Bool) (b9 : Bool) (s1 : ByteArray) (n13 : Int) (n14 : Int) (n15 : Int) (b10 : Bool) (b11 : Bool) (n16 : Int) (b13 : Bool) (b14 : Bool) (n10 : Int) (b12 : Bool) (l11 : List Int) (AG : List (Option AV) → Hp E → Option R) (KL : Ex → List (Option AV) → Hp E → Option R) :
    iterStep (E := E) (O_impl_PackMachine_wwwww N) (fun {R} => LI (IT_impl_PackMachine_wwwww_2 N) 5 116 sl_impl_PackMachine_wwwww (R := R)) J_impl_PackMachine_wwwww 5 116 0 [1, 3, 4, 5, 64, 65, 66] [1, 3, 4] (body Try.f9 0) AG KL [(some (AV.sc (SV.ptr 5 0 0))), (some (AV.sc (SV.int IntKind.i64 n8))), (some (AV.sc (SV.ptr 6 0 0))), (some (AV.sc (SV.fn 37 [(6, (0, 0))]))), (some (AV.sc (SV.slc 8 (some (0, (2, 0))) b6))), (some (AV.sc (SV.int IntKind.i64 n9))), (some (AV.sc (SV.int IntKind.i64 n10)))] [(some (HE.mk false (HB.rows (B.i64 l6)))), (some (HE.mk false (HB.rows (B.i64 l7)))), (some (HE.mk false (HB.rows (B.i64 l8)))), (some (HE.mk false (HB.rows (B.iPortValue l9)))), (some (HE.mk false (HB.rows (B.iPortValue l10)))), (some (HE.mk false (HB.exp none [(SV.int IntKind.i64 n11), (SV.slc 0 none b7), (SV.int IntKind.i64 n12), (SV.slc 1 none b8), (SV.slc 2 none b9), (SV.str s1), (SV.int IntKind.i64 n13), (SV.int IntKind.i64 n14), (SV.int IntKind.i64 n15), (SV.slc 3 none b10), (SV.slc 4 none b11), (SV.int IntKind.i64 n16)]))), (some (HE.mk false (HB.exp (some 69) [(SV.ptr 6 0 0), (SV.slc 7 none b12)]))), (some (HE.mk false (HB.rows (B.u8 l11)))), (some (HE.mk false (HB.exp none [(SV.slc 3 none b13), (SV.slc 4 none b14)])))] =
      s_impl_PackMachine_wwwww_0 N n8 b6 n9 l6 l7 l8 l9 l10 n11 b7 n12 b8 b9 s1 n13 n14 n15 b10 b11 n16 b13 b14 n10 b12 l11 (fun n10 b12 l11 => AG [(some (AV.sc (SV.ptr 5 0 0))), (some (AV.sc (SV.int IntKind.i64 n8))), (some (AV.sc (SV.ptr 6 0 0))), (some (AV.sc (SV.fn 37 [(6, (0, 0))]))), (some (AV.sc (SV.slc 8 (some (0, (2, 0))) b6))), (some (AV.sc (SV.int IntKind.i64 n9))), (some (AV.sc (SV.int IntKind.i64 n10)))] [(some (HE.mk false (HB.rows (B.i64 l6)))), (some (HE.mk false (HB.rows (B.i64 l7)))), (some (HE.mk false (HB.rows (B.i64 l8)))), (some (HE.mk false (HB.rows (B.iPortValue l9)))), (some (HE.mk false (HB.rows (B.iPortValue l10)))), (some (HE.mk false (HB.exp none [(SV.int IntKind.i64 n11), (SV.slc 0 none b7), (SV.int IntKind.i64 n12), (SV.slc 1 none b8), (SV.slc 2 none b9), (SV.str s1), (SV.int IntKind.i64 n13), (SV.int IntKind.i64 n14), (SV.int IntKind.i64 n15), (SV.slc 3 none b10), (SV.slc 4 none b11), (SV.int IntKind.i64 n16)]))), (some (HE.mk false (HB.exp (some 69) [(SV.ptr 6 0 0), (SV.slc 7 none b12)]))), (some (HE.mk false (HB.rows (B.u8 l11)))), (some (HE.mk false (HB.exp none [(SV.slc 3 none b13), (SV.slc 4 none b14)])))])  (fun b114 l122 => KL Ex.normal [(some (AV.sc (SV.ptr 5 0 0))), (some (AV.sc (SV.int IntKind.i64 n8))), (some (AV.sc (SV.ptr 6 0 0)))] [(some (HE.mk false (HB.rows (B.i64 l6)))), (some (HE.mk false (HB.rows (B.i64 l7)))), (some (HE.mk false (HB.rows (B.i64 l8)))), (some (HE.mk false (HB.rows (B.iPortValue l9)))), (some (HE.mk false (HB.rows (B.iPortValue l10)))), (some (HE.mk false (HB.exp none [(SV.int IntKind.i64 n11), (SV.slc 0 none b7), (SV.int IntKind.i64 n12), (SV.slc 1 none b8), (SV.slc 2 none b9), (SV.str s1), (SV.int IntKind.i64 n13), (SV.int IntKind.i64 n14), (SV.int IntKind.i64 n15), (SV.slc 3 none b10), (SV.slc 4 none b11), (SV.int IntKind.i64 n16)]))), (some (HE.mk false (HB.exp (some 69) [(SV.ptr 6 0 0), (SV.slc 7 none b114)]))), (some (HE.mk false (HB.rows (B.u8 l122))))]) := castPr (by kernel_rfl) (ea_se_impl_PackMachine_wwwww_0 N (g_impl_PutWord N) (g_impl_ymix N) (g_impl_yhasBit N) (g_impl_yframeSet_Fimpl_PackMachine_2_Wwwwww N) (g_impl_PackMachine_1_wWw N) (g_strings_Builder_WriteString_Ww N) (g_strings_Builder_WriteString_Ww_v1 N) (g_impl_MachineFault_wwwww N) n8 b6 n9 l6 l7 l8 l9 l10 n11 b7 n12 b8 b9 s1 n13 n14 n15 b10 b11 n16 b13 b14 n10 b12 l11 AG KL)
theorem le_impl_PackMachine_wwwww_0 (N : Nat) {R : Type} (n8 : Int) (b6 : Bool) (n9 : Int) (l6 : List Int) (l7 : List Int) (l8 : List Int) (l9 : List PortValue) (l10 : List PortValue) (n11 : Int) (b7 : Bool) (n12 : Int) (b8 : Bool) (b9 : Bool) (s1 : ByteArray) (n13 : Int) (n14 : Int) (n15 : Int) (b10 : Bool) (b11 : Bool) (n16 : Int) (b13 : Bool) (b14 : Bool) (KL : Ex → List (Option AV) → Hp E → Option R) : ∀ (f : Nat), ∀ (n10 : Int) (b12 : Bool) (l11 : List Int), iterK (E := E) (O_impl_PackMachine_wwwww N) (fun {R} => LI (IT_impl_PackMachine_wwwww_2 N) 5 116 sl_impl_PackMachine_wwwww (R := R)) J_impl_PackMachine_wwwww 5 116 0 [1, 3, 4, 5, 64, 65, 66] [1, 3, 4] (body Try.f9 0) f [(some (AV.sc (SV.ptr 5 0 0))), (some (AV.sc (SV.int IntKind.i64 n8))), (some (AV.sc (SV.ptr 6 0 0))), (some (AV.sc (SV.fn 37 [(6, (0, 0))]))), (some (AV.sc (SV.slc 8 (some (0, (2, 0))) b6))), (some (AV.sc (SV.int IntKind.i64 n9))), (some (AV.sc (SV.int IntKind.i64 n10)))] [(some (HE.mk false (HB.rows (B.i64 l6)))), (some (HE.mk false (HB.rows (B.i64 l7)))), (some (HE.mk false (HB.rows (B.i64 l8)))), (some (HE.mk false (HB.rows (B.iPortValue l9)))), (some (HE.mk false (HB.rows (B.iPortValue l10)))), (some (HE.mk false (HB.exp none [(SV.int IntKind.i64 n11), (SV.slc 0 none b7), (SV.int IntKind.i64 n12), (SV.slc 1 none b8), (SV.slc 2 none b9), (SV.str s1), (SV.int IntKind.i64 n13), (SV.int IntKind.i64 n14), (SV.int IntKind.i64 n15), (SV.slc 3 none b10), (SV.slc 4 none b11), (SV.int IntKind.i64 n16)]))), (some (HE.mk false (HB.exp (some 69) [(SV.ptr 6 0 0), (SV.slc 7 none b12)]))), (some (HE.mk false (HB.rows (B.u8 l11)))), (some (HE.mk false (HB.exp none [(SV.slc 3 none b13), (SV.slc 4 none b14)])))] KL = l_impl_PackMachine_wwwww_0 N n8 b6 n9 l6 l7 l8 l9 l10 n11 b7 n12 b8 b9 s1 n13 n14 n15 b10 b11 n16 b13 b14 (fun b114 l122 => KL Ex.normal [(some (AV.sc (SV.ptr 5 0 0))), (some (AV.sc (SV.int IntKind.i64 n8))), (some (AV.sc (SV.ptr 6 0 0)))] [(some (HE.mk false (HB.rows (B.i64 l6)))), (some (HE.mk false (HB.rows (B.i64 l7)))), (some (HE.mk false (HB.rows (B.i64 l8)))), (some (HE.mk false (HB.rows (B.iPortValue l9)))), (some (HE.mk false (HB.rows (B.iPortValue l10)))), (some (HE.mk false (HB.exp none [(SV.int IntKind.i64 n11), (SV.slc 0 none b7), (SV.int IntKind.i64 n12), (SV.slc 1 none b8), (SV.slc 2 none b9), (SV.str s1), (SV.int IntKind.i64 n13), (SV.int IntKind.i64 n14), (SV.int IntKind.i64 n15), (SV.slc 3 none b10), (SV.slc 4 none b11), (SV.int IntKind.i64 n16)]))), (some (HE.mk false (HB.exp (some 69) [(SV.ptr 6 0 0), (SV.slc 7 none b114)]))), (some (HE.mk false (HB.rows (B.u8 l122))))]) f n10 b12 l11 := by
  intro f
  induction f with
  | zero => intros; rfl
  | succ f ih =>
    intro n10 b12 l11
    rw [iterK_succ, se_impl_PackMachine_wwwww_0]
    exact (congrArg (fun z0 => s_impl_PackMachine_wwwww_0 N n8 b6 n9 l6 l7 l8 l9 l10 n11 b7 n12 b8 b9 s1 n13 n14 n15 b10 b11 n16 b13 b14 n10 b12 l11 z0 (fun b114 l122 => KL Ex.normal [(some (AV.sc (SV.ptr 5 0 0))), (some (AV.sc (SV.int IntKind.i64 n8))), (some (AV.sc (SV.ptr 6 0 0)))] [(some (HE.mk false (HB.rows (B.i64 l6)))), (some (HE.mk false (HB.rows (B.i64 l7)))), (some (HE.mk false (HB.rows (B.i64 l8)))), (some (HE.mk false (HB.rows (B.iPortValue l9)))), (some (HE.mk false (HB.rows (B.iPortValue l10)))), (some (HE.mk false (HB.exp none [(SV.int IntKind.i64 n11), (SV.slc 0 none b7), (SV.int IntKind.i64 n12), (SV.slc 1 none b8), (SV.slc 2 none b9), (SV.str s1), (SV.int IntKind.i64 n13), (SV.int IntKind.i64 n14), (SV.int IntKind.i64 n15), (SV.slc 3 none b10), (SV.slc 4 none b11), (SV.int IntKind.i64 n16)]))), (some (HE.mk false (HB.exp (some 69) [(SV.ptr 6 0 0), (SV.slc 7 none b114)]))), (some (HE.mk false (HB.rows (B.u8 l122))))])) (funext fun n10 => funext fun b12 => funext fun l11 => ih n10 b12 l11))
noncomputable def i_impl_PackMachine_wwwww_0 (N : Nat) {R : Type} (vs : List (Option AV)) (H : Hp E) (KL : Ex → List (Option AV) → Hp E → Option R) : Option R :=
 match vs, H with
 | [(some (AV.sc (SV.ptr 5 0 0))), (some (AV.sc (SV.int IntKind.i64 n8))), (some (AV.sc (SV.ptr 6 0 0))), (some (AV.sc (SV.fn 37 [(6, (0, 0))]))), (some (AV.sc (SV.slc 8 (some (0, (2, 0))) b6))), (some (AV.sc (SV.int IntKind.i64 n9))), (some (AV.sc (SV.int IntKind.i64 n10)))], [(some (HE.mk false (HB.rows (B.i64 l6)))), (some (HE.mk false (HB.rows (B.i64 l7)))), (some (HE.mk false (HB.rows (B.i64 l8)))), (some (HE.mk false (HB.rows (B.iPortValue l9)))), (some (HE.mk false (HB.rows (B.iPortValue l10)))), (some (HE.mk false (HB.exp none [(SV.int IntKind.i64 n11), (SV.slc 0 none b7), (SV.int IntKind.i64 n12), (SV.slc 1 none b8), (SV.slc 2 none b9), (SV.str s1), (SV.int IntKind.i64 n13), (SV.int IntKind.i64 n14), (SV.int IntKind.i64 n15), (SV.slc 3 none b10), (SV.slc 4 none b11), (SV.int IntKind.i64 n16)]))), (some (HE.mk false (HB.exp (some 69) [(SV.ptr 6 0 0), (SV.slc 7 none b12)]))), (some (HE.mk false (HB.rows (B.u8 l11)))), (some (HE.mk false (HB.exp none [(SV.slc 3 none b13), (SV.slc 4 none b14)])))] => c_impl_PackMachine_wwwww_0 N n8 b6 n9 l6 l7 l8 l9 l10 n11 b7 n12 b8 b9 s1 n13 n14 n15 b10 b11 n16 b13 b14 n10 b12 l11 (fun b115 l123 => KL Ex.normal [(some (AV.sc (SV.ptr 5 0 0))), (some (AV.sc (SV.int IntKind.i64 n8))), (some (AV.sc (SV.ptr 6 0 0)))] [(some (HE.mk false (HB.rows (B.i64 l6)))), (some (HE.mk false (HB.rows (B.i64 l7)))), (some (HE.mk false (HB.rows (B.i64 l8)))), (some (HE.mk false (HB.rows (B.iPortValue l9)))), (some (HE.mk false (HB.rows (B.iPortValue l10)))), (some (HE.mk false (HB.exp none [(SV.int IntKind.i64 n11), (SV.slc 0 none b7), (SV.int IntKind.i64 n12), (SV.slc 1 none b8), (SV.slc 2 none b9), (SV.str s1), (SV.int IntKind.i64 n13), (SV.int IntKind.i64 n14), (SV.int IntKind.i64 n15), (SV.slc 3 none b10), (SV.slc 4 none b11), (SV.int IntKind.i64 n16)]))), (some (HE.mk false (HB.exp (some 69) [(SV.ptr 6 0 0), (SV.slc 7 none b115)]))), (some (HE.mk false (HB.rows (B.u8 l123))))])
 | _, _ => none
noncomputable def IT_impl_PackMachine_wwwww_0 (N : Nat) : Its E := addIt 0 (i_impl_PackMachine_wwwww_0 N) (IT_impl_PackMachine_wwwww_2 N)
theorem IT_impl_PackMachine_wwwww_0_ok (N : Nat) : ItOk (IT_impl_PackMachine_wwwww_0 N) 5 116 sl_impl_PackMachine_wwwww (lsB Try.f9 [0, 2]) :=
  addItB_ok (inner := [2]) ok (O_impl_PackMachine_wwwww_ok N) (jn_ok _ _ _) (IT_impl_PackMachine_wwwww_2_ok N) rfl (by kernel_rfl) rfl fun vs H KL r h => by
    unfold i_impl_PackMachine_wwwww_0 at h
    split at h
    · exact ⟨_, (le_impl_PackMachine_wwwww_0 N _ _ _ _ _ _ _ _ _ _ _ _ _ _ _ _ _ _ _ _ _ _ KL N _ _ _).trans h⟩
    · cases h
noncomputable def s_impl_PackMachine_wwwww_4 (N : Nat) {R : Type} (s5 : ByteArray) (n40 : Int) (l32 : List Int) (l33 : List Int) (l34 : List Int) (l35 : List PortValue) (l36 : List PortValue) (n42 : Int) (b41 : Bool) (n43 : Int) (b42 : Bool) (b43 : Bool) (s6 : ByteArray) (n44 : Int) (n45 : Int) (n46 : Int) (b44 : Bool) (b45 : Bool) (n47 : Int) (n41 : Int) (b46 : Bool) (l37 : List Int) (ag : Int → Bool → (List Int) → Option R)  (kN : Bool → (List Int) → Option R) : Option R :=
 (cond (decide ((n41 < n40)))
 (g_impl_yhasBit N s5 n41 fun b47 =>
 (cond b47
 (cond (((decide (((0 : Int) ≤ (IntKind.wrap IntKind.i64 (n41 * (256 : Int)))))) && (decide (((IntKind.wrap IntKind.i64 (n41 * (256 : Int))) ≤ (IntKind.wrap IntKind.i64 ((IntKind.wrap IntKind.i64 (n41 + (1 : Int))) * (256 : Int))))))) && (decide (((IntKind.wrap IntKind.i64 ((IntKind.wrap IntKind.i64 (n41 + (1 : Int))) * (256 : Int))) ≤ (((ByteArray.size s6) : Nat) : Int)))))
 (g_strings_Builder_WriteString_Ww_v1 N (ByteArray.extract s6 (Int.toNat (IntKind.wrap IntKind.i64 (n41 * (256 : Int)))) (Int.toNat (IntKind.wrap IntKind.i64 ((IntKind.wrap IntKind.i64 (n41 + (1 : Int))) * (256 : Int))))) b46 l37 fun n48 b48 l38 =>
 (ag (IntKind.wrap IntKind.i64 (n41 + (1 : Int))) b48 l38))
 none)
 (ag (IntKind.wrap IntKind.i64 (n41 + (1 : Int))) b46 l37)))
 (kN b46 l37))
noncomputable def ga_s_impl_PackMachine_wwwww_4 (N : Nat) (G_impl_PutWord : ∀ {R : Type} (n : Int) (k : ByteArray → Option R), Option R) (G_impl_ymix : ∀ {R : Type} (s : ByteArray) (n : Int) (k : Int → Option R), Option R) (G_impl_yhasBit : ∀ {R : Type} (s : ByteArray) (n : Int) (k : Bool → Option R), Option R) (G_impl_yframeSet_Fimpl_PackMachine_2_Wwwwww : ∀ {R : Type} (n : Int) (n1 : Int) (b : Bool) (n2 : Int) (b1 : Bool) (b2 : Bool) (s : ByteArray) (n3 : Int) (n4 : Int) (n5 : Int) (b3 : Bool) (b4 : Bool) (n6 : Int) (l : List Int) (l1 : List Int) (l2 : List Int) (l3 : List PortValue) (l4 : List PortValue) (k : ByteArray → Option R), Option R) (G_impl_PackMachine_1_wWw : ∀ {R : Type} (b : Bool) (l : List Int) (b1 : Bool) (l1 : List Int) (k : Option R) (k_1 : (List Int) → Bool → (List Int) → Option R), Option R) (G_strings_Builder_WriteString_Ww : ∀ {R : Type} (s : ByteArray) (b : Bool) (l : List Int) (k : Int → Bool → (List Int) → Option R), Option R) (G_strings_Builder_WriteString_Ww_v1 : ∀ {R : Type} (s : ByteArray) (b : Bool) (l : List Int) (k : Int → Bool → (List Int) → Option R), Option R) (G_impl_MachineFault_wwwww : ∀ {R : Type} (n : Int) (b : Bool) (n1 : Int) (b1 : Bool) (b2 : Bool) (s : ByteArray) (n2 : Int) (n3 : Int) (n4 : Int) (b3 : Bool) (b4 : Bool) (n5 : Int) (l : List Int) (l1 : List Int) (l2 : List Int) (l3 : List PortValue) (l4 : List PortValue) (k : Int → Option R), Option R) {R : Type} (s5 : ByteArray) (n40 : Int) (l32 : List Int) (l33 : List Int) (l34 : List Int) (l35 : List PortValue) (l36 : List PortValue) (n42 : Int) (b41 : Bool) (n43 : Int) (b42 : Bool) (b43 : Bool) (s6 : ByteArray) (n44 : Int) (n45 : Int) (n46 : Int) (b44 : Bool) (b45 : Bool) (n47 : Int) (n41 : Int) (b46 : Bool) (l37 : List Int) (ag : Int → Bool → (List Int) → Option R)  (kN : Bool → (List Int) → Option R) : Option R :=
 (cond (decide ((n41 < n40)))
 (G_impl_yhasBit s5 n41 fun b47 =>
 (cond b47
 (cond (((decide (((0 : Int) ≤ (IntKind.wrap IntKind.i64 (n41 * (256 : Int)))))) && (decide (((IntKind.wrap IntKind.i64 (n41 * (256 : Int))) ≤ (IntKind.wrap IntKind.i64 ((IntKind.wrap IntKind.i64 (n41 + (1 : Int))) * (256 : Int))))))) && (decide (((IntKind.wrap IntKind.i64 ((IntKind.wrap IntKind.i64 (n41 + (1 : Int))) * (256 : Int))) ≤ (((ByteArray.size s6) : Nat) : Int)))))
 (G_strings_Builder_WriteString_Ww_v1 (ByteArray.extract s6 (Int.toNat (IntKind.wrap IntKind.i64 (n41 * (256 : Int)))) (Int.toNat (IntKind.wrap IntKind.i64 ((IntKind.wrap IntKind.i64 (n41 + (1 : Int))) * (256 : Int))))) b46 l37 fun n48 b48 l38 =>
 (ag (IntKind.wrap IntKind.i64 (n41 + (1 : Int))) b48 l38))
 none)
 (ag (IntKind.wrap IntKind.i64 (n41 + (1 : Int))) b46 l37)))
 (kN b46 l37))
noncomputable def l_impl_PackMachine_wwwww_4 (N : Nat) {R : Type} (s5 : ByteArray) (n40 : Int) (l32 : List Int) (l33 : List Int) (l34 : List Int) (l35 : List PortValue) (l36 : List PortValue) (n42 : Int) (b41 : Bool) (n43 : Int) (b42 : Bool) (b43 : Bool) (s6 : ByteArray) (n44 : Int) (n45 : Int) (n46 : Int) (b44 : Bool) (b45 : Bool) (n47 : Int) (kN : Bool → (List Int) → Option R) : Nat → Int → Bool → (List Int) → Option R
 | 0, _, _, _ => none
 | f + 1, n41, b46, l37 => s_impl_PackMachine_wwwww_4 N s5 n40 l32 l33 l34 l35 l36 n42 b41 n43 b42 b43 s6 n44 n45 n46 b44 b45 n47 n41 b46 l37 (fun n41 b46 l37 => l_impl_PackMachine_wwwww_4 N s5 n40 l32 l33 l34 l35 l36 n42 b41 n43 b42 b43 s6 n44 n45 n46 b44 b45 n47 kN f n41 b46 l37)  kN
noncomputable def c_impl_PackMachine_wwwww_4 (N : Nat) {R : Type} (s5 : ByteArray) (n40 : Int) (l32 : List Int) (l33 : List Int) (l34 : List Int) (l35 : List PortValue) (l36 : List PortValue) (n42 : Int) (b41 : Bool) (n43 : Int) (b42 : Bool) (b43 : Bool) (s6 : ByteArray) (n44 : Int) (n45 : Int) (n46 : Int) (b44 : Bool) (b45 : Bool) (n47 : Int) (n41 : Int) (b46 : Bool) (l37 : List Int) (kN : Bool → (List Int) → Option R) : Option R := l_impl_PackMachine_wwwww_4 N s5 n40 l32 l33 l34 l35 l36 n42 b41 n43 b42 b43 s6 n44 n45 n46 b44 b45 n47 kN N n41 b46 l37
theorem ea_se_impl_PackMachine_wwwww_4 (N : Nat) (G_impl_PutWord : ∀ {R : Type} (n : Int) (k : ByteArray → Option R), Option R) (G_impl_ymix : ∀ {R : Type} (s : ByteArray) (n : Int) (k : Int → Option R), Option R) (G_impl_yhasBit : ∀ {R : Type} (s : ByteArray) (n : Int) (k : Bool → Option R), Option R) (G_impl_yframeSet_Fimpl_PackMachine_2_Wwwwww : ∀ {R : Type} (n : Int) (n1 : Int) (b : Bool) (n2 : Int) (b1 : Bool) (b2 : Bool) (s : ByteArray) (n3 : Int) (n4 : Int) (n5 : Int) (b3 : Bool) (b4 : Bool) (n6 : Int) (l : List Int) (l1 : List Int) (l2 : List Int) (l3 : List PortValue) (l4 : List PortValue) (k : ByteArray → Option R), Option R) (G_impl_PackMachine_1_wWw : ∀ {R : Type} (b : Bool) (l : List Int) (b1 : Bool) (l1 : List Int) (k : Option R) (k_1 : (List Int) → Bool → (List Int) → Option R), Option R) (G_strings_Builder_WriteString_Ww : ∀ {R : Type} (s : ByteArray) (b : Bool) (l : List Int) (k : Int → Bool → (List Int) → Option R), Option R) (G_strings_Builder_WriteString_Ww_v1 : ∀ {R : Type} (s : ByteArray) (b : Bool) (l : List Int) (k : Int → Bool → (List Int) → Option R), Option R) (G_impl_MachineFault_wwwww : ∀ {R : Type} (n : Int) (b : Bool) (n1 : Int) (b1 : Bool) (b2 : Bool) (s : ByteArray) (n2 : Int) (n3 : Int) (n4 : Int) (b3 : Bool) (b4 : Bool) (n5 : Int) (l : List Int) (l1 : List Int) (l2 : List Int) (l3 : List PortValue) (l4 : List PortValue) (k : Int → Option R), Option R) {R : Type} (s5 : ByteArray) (n40 : Int) (l32 : List Int) (l33 : List Int) (l34 : List Int) (l35 : List PortValue) (l36 : List PortValue) (n42 : Int) (b41 : Bool) (n43 : Int) (b42 : Bool) (b43 : Bool) (s6 : ByteArray) (n44 : Int) (n45 : Int) (n46 : Int) (b44 : Bool) (b45 : Bool) (n47 : Int) (n41 : Int) (b46 : Bool) (l37 : List Int) (AG : List (Option AV) → Hp E → Option R) (KL : Ex → List (Option AV) → Hp E → Option R) :
    iterStep (E := E) (OA_impl_PackMachine_wwwww N G_impl_PutWord G_impl_ymix G_impl_yhasBit G_impl_yframeSet_Fimpl_PackMachine_2_Wwwwww G_impl_PackMachine_1_wWw G_strings_Builder_WriteString_Ww G_strings_Builder_WriteString_Ww_v1 G_impl_MachineFault_wwwww) (fun {R} => LI (IT_impl_PackMachine_wwwww_0 N) 5 116 sl_impl_PackMachine_wwwww (R := R)) J_impl_PackMachine_wwwww 5 116 4 [1, 4, 10, 90, 91] [4] (body Try.f9 4) AG KL [(some (AV.sc (SV.ptr 5 0 0))), (some (AV.sc (SV.ptr 6 0 0))), (some (AV.sc (SV.str s5))), (some (AV.sc (SV.int IntKind.i64 n40))), (some (AV.sc (SV.int IntKind.i64 n41)))] [(some (HE.mk false (HB.rows (B.i64 l32)))), (some (HE.mk false (HB.rows (B.i64 l33)))), (some (HE.mk false (HB.rows (B.i64 l34)))), (some (HE.mk false (HB.rows (B.iPortValue l35)))), (some (HE.mk false (HB.rows (B.iPortValue l36)))), (some (HE.mk false (HB.exp none [(SV.int IntKind.i64 n42), (SV.slc 0 none b41), (SV.int IntKind.i64 n43), (SV.slc 1 none b42), (SV.slc 2 none b43), (SV.str s6), (SV.int IntKind.i64 n44), (SV.int IntKind.i64 n45), (SV.int IntKind.i64 n46), (SV.slc 3 none b44), (SV.slc 4 none b45), (SV.int IntKind.i64 n47)]))), (some (HE.mk false (HB.exp (some 69) [(SV.ptr 6 0 0), (SV.slc 7 none b46)]))), (some (HE.mk false (HB.rows (B.u8 l37))))] =
      ga_s_impl_PackMachine_wwwww_4 N G_impl_PutWord G_impl_ymix G_impl_yhasBit G_impl_yframeSet_Fimpl_PackMachine_2_Wwwwww G_impl_PackMachine_1_wWw G_strings_Builder_WriteString_Ww G_strings_Builder_WriteString_Ww_v1 G_impl_MachineFault_wwwww s5 n40 l32 l33 l34 l35 l36 n42 b41 n43 b42 b43 s6 n44 n45 n46 b44 b45 n47 n41 b46 l37 (fun n41 b46 l37 => AG [(some (AV.sc (SV.ptr 5 0 0))), (some (AV.sc (SV.ptr 6 0 0))), (some (AV.sc (SV.str s5))), (some (AV.sc (SV.int IntKind.i64 n40))), (some (AV.sc (SV.int IntKind.i64 n41)))] [(some (HE.mk false (HB.rows (B.i64 l32)))), (some (HE.mk false (HB.rows (B.i64 l33)))), (some (HE.mk false (HB.rows (B.i64 l34)))), (some (HE.mk false (HB.rows (B.iPortValue l35)))), (some (HE.mk false (HB.rows (B.iPortValue l36)))), (some (HE.mk false (HB.exp none [(SV.int IntKind.i64 n42), (SV.slc 0 none b41), (SV.int IntKind.i64 n43), (SV.slc 1 none b42), (SV.slc 2 none b43), (SV.str s6), (SV.int IntKind.i64 n44), (SV.int IntKind.i64 n45), (SV.int IntKind.i64 n46), (SV.slc 3 none b44), (SV.slc 4 none b45), (SV.int IntKind.i64 n47)]))), (some (HE.mk false (HB.exp (some 69) [(SV.ptr 6 0 0), (SV.slc 7 none b46)]))), (some (HE.mk false (HB.rows (B.u8 l37))))])  (fun b116 l124 => KL Ex.normal [(some (AV.sc (SV.ptr 5 0 0)))] [(some (HE.mk false (HB.rows (B.i64 l32)))), (some (HE.mk false (HB.rows (B.i64 l33)))), (some (HE.mk false (HB.rows (B.i64 l34)))), (some (HE.mk false (HB.rows (B.iPortValue l35)))), (some (HE.mk false (HB.rows (B.iPortValue l36)))), (some (HE.mk false (HB.exp (some 69) [(SV.ptr 5 0 0), (SV.slc 6 none b116)]))), (some (HE.mk false (HB.rows (B.u8 l124))))]) := by kernel_rfl
theorem se_impl_PackMachine_wwwww_4 (N : Nat) {R : Type} (s5 : ByteArray) (n40 : Int) (l32 : List Int) (l33 : List Int) (l34 : List Int) (l35 : List PortValue) (l36 : List PortValue) (n42 : Int) (b41 : Bool) (n43 : Int) (b42 : Bool) (b43 : Bool) (s6 : ByteArray) (n44 : Int) (n45 : Int) (n46 : Int) (b44 : Bool) (b45 : Bool) (n47 : Int) (n41 : Int) (b46 : Bool) (l37 : List Int) (AG : List (Option AV) → Hp E → Option R) (KL : Ex → List (Option AV) → Hp E → Option R) :
    iterStep (E := E) (O_impl_PackMachine_wwwww N) (fun {R} => LI (IT_impl_PackMachine_wwwww_0 N) 5 116 sl_impl_PackMachine_wwwww (R := R)) J_impl_PackMachine_wwwww 5 116 4 [1, 4, 10, 90, 91] [4] (body Try.f9 4) AG KL [(some (AV.sc (SV.ptr 5 0 0))), (some (AV.sc (SV.ptr 6 0 0))), (some (AV.sc (SV.str s5))), (some (AV.sc (SV.int IntKind.i64 n40))), (some (AV.sc (SV.int IntKind.i64 n41)))] [(some (HE.mk false (HB.rows (B.i64 l32)))), (some (HE.mk false (HB.rows (B.i64 l33)))), (some (HE.mk false (HB.rows (B.i64 l34)))), (some (HE.mk false (HB.rows (B.iPortValue l35)))), (some (HE.mk false (HB.rows (B.iPortValue l36)))), (some (HE.mk false (HB.exp none [(SV.int IntKind.i64 n42), (SV.slc 0 none b41), (SV.int IntKind.i64 n43), (SV.slc 1 none b42), (SV.slc 2 none b43), (SV.str s6), (SV.int IntKind.i64 n44), (SV.int IntKind.i64 n45), (SV.int IntKind.i64 n46), (SV.slc 3 none b44), (SV.slc 4 none b45), (SV.int IntKind.i64 n47)]))), (some (HE.mk false (HB.exp (some 69) [(SV.ptr 6 0 0), (SV.slc 7 none b46)]))), (some (HE.mk false (HB.rows (B.u8 l37))))] =
      s_impl_PackMachine_wwwww_4 N s5 n40 l32 l33 l34 l35 l36 n42 b41 n43 b42 b43 s6 n44 n45 n46 b44 b45 n47 n41 b46 l37 (fun n41 b46 l37 => AG [(some (AV.sc (SV.ptr 5 0 0))), (some (AV.sc (SV.ptr 6 0 0))), (some (AV.sc (SV.str s5))), (some (AV.sc (SV.int IntKind.i64 n40))), (some (AV.sc (SV.int IntKind.i64 n41)))] [(some (HE.mk false (HB.rows (B.i64 l32)))), (some (HE.mk false (HB.rows (B.i64 l33)))), (some (HE.mk false (HB.rows (B.i64 l34)))), (some (HE.mk false (HB.rows (B.iPortValue l35)))), (some (HE.mk false (HB.rows (B.iPortValue l36)))), (some (HE.mk false (HB.exp none [(SV.int IntKind.i64 n42), (SV.slc 0 none b41), (SV.int IntKind.i64 n43), (SV.slc 1 none b42), (SV.slc 2 none b43), (SV.str s6), (SV.int IntKind.i64 n44), (SV.int IntKind.i64 n45), (SV.int IntKind.i64 n46), (SV.slc 3 none b44), (SV.slc 4 none b45), (SV.int IntKind.i64 n47)]))), (some (HE.mk false (HB.exp (some 69) [(SV.ptr 6 0 0), (SV.slc 7 none b46)]))), (some (HE.mk false (HB.rows (B.u8 l37))))])  (fun b116 l124 => KL Ex.normal [(some (AV.sc (SV.ptr 5 0 0)))] [(some (HE.mk false (HB.rows (B.i64 l32)))), (some (HE.mk false (HB.rows (B.i64 l33)))), (some (HE.mk false (HB.rows (B.i64 l34)))), (some (HE.mk false (HB.rows (B.iPortValue l35)))), (some (HE.mk false (HB.rows (B.iPortValue l36)))), (some (HE.mk false (HB.exp (some 69) [(SV.ptr 5 0 0), (SV.slc 6 none b116)]))), (some (HE.mk false (HB.rows (B.u8 l124))))]) := castPr (by kernel_rfl) (ea_se_impl_PackMachine_wwwww_4 N (g_impl_PutWord N) (g_impl_ymix N) (g_impl_yhasBit N) (g_impl_yframeSet_Fimpl_PackMachine_2_Wwwwww N) (g_impl_PackMachine_1_wWw N) (g_strings_Builder_WriteString_Ww N) (g_strings_Builder_WriteString_Ww_v1 N) (g_impl_MachineFault_wwwww N) s5 n40 l32 l33 l34 l35 l36 n42 b41 n43 b42 b43 s6 n44 n45 n46 b44 b45 n47 n41 b46 l37 AG KL)
theorem le_impl_PackMachine_wwwww_4 (N : Nat) {R : Type} (s5 : ByteArray) (n40 : Int) (l32 : List Int) (l33 : List Int) (l34 : List Int) (l35 : List PortValue) (l36 : List PortValue) (n42 : Int) (b41 : Bool) (n43 : Int) (b42 : Bool) (b43 : Bool) (s6 : ByteArray) (n44 : Int) (n45 : Int) (n46 : Int) (b44 : Bool) (b45 : Bool) (n47 : Int) (KL : Ex → List (Option AV) → Hp E → Option R) : ∀ (f : Nat), ∀ (n41 : Int) (b46 : Bool) (l37 : List Int), iterK (E := E) (O_impl_PackMachine_wwwww N) (fun {R} => LI (IT_impl_PackMachine_wwwww_0 N) 5 116 sl_impl_PackMachine_wwwww (R := R)) J_impl_PackMachine_wwwww 5 116 4 [1, 4, 10, 90, 91] [4] (body Try.f9 4) f [(some (AV.sc (SV.ptr 5 0 0))), (some (AV.sc (SV.ptr 6 0 0))), (some (AV.sc (SV.str s5))), (some (AV.sc (SV.int IntKind.i64 n40))), (some (AV.sc (SV.int IntKind.i64 n41)))] [(some (HE.mk false (HB.rows (B.i64 l32)))), (some (HE.mk false (HB.rows (B.i64 l33)))), (some (HE.mk false (HB.rows (B.i64 l34)))), (some (HE.mk false (HB.rows (B.iPortValue l35)))), (some (HE.mk false (HB.rows (B.iPortValue l36)))), (some (HE.mk false (HB.exp none [(SV.int IntKind.i64 n42), (SV.slc 0 none b41), (SV.int IntKind.i64 n43), (SV.slc 1 none b42), (SV.slc 2 none b43), (SV.str s6), (SV.int IntKind.i64 n44), (SV.int IntKind.i64 n45), (SV.int IntKind.i64 n46), (SV.slc 3 none b44), (SV.slc 4 none b45), (SV.int IntKind.i64 n47)]))), (some (HE.mk false (HB.exp (some 69) [(SV.ptr 6 0 0), (SV.slc 7 none b46)]))), (some (HE.mk false (HB.rows (B.u8 l37))))] KL = l_impl_PackMachine_wwwww_4 N s5 n40 l32 l33 l34 l35 l36 n42 b41 n43 b42 b43 s6 n44 n45 n46 b44 b45 n47 (fun b116 l124 => KL Ex.normal [(some (AV.sc (SV.ptr 5 0 0)))] [(some (HE.mk false (HB.rows (B.i64 l32)))), (some (HE.mk false (HB.rows (B.i64 l33)))), (some (HE.mk false (HB.rows (B.i64 l34)))), (some (HE.mk false (HB.rows (B.iPortValue l35)))), (some (HE.mk false (HB.rows (B.iPortValue l36)))), (some (HE.mk false (HB.exp (some 69) [(SV.ptr 5 0 0), (SV.slc 6 none b116)]))), (some (HE.mk false (HB.rows (B.u8 l124))))]) f n41 b46 l37 := by
  intro f
  induction f with
  | zero => intros; rfl
  | succ f ih =>
    intro n41 b46 l37
    rw [iterK_succ, se_impl_PackMachine_wwwww_4]
    exact (congrArg (fun z0 => s_impl_PackMachine_wwwww_4 N s5 n40 l32 l33 l34 l35 l36 n42 b41 n43 b42 b43 s6 n44 n45 n46 b44 b45 n47 n41 b46 l37 z0 (fun b116 l124 => KL Ex.normal [(some (AV.sc (SV.ptr 5 0 0)))] [(some (HE.mk false (HB.rows (B.i64 l32)))), (some (HE.mk false (HB.rows (B.i64 l33)))), (some (HE.mk false (HB.rows (B.i64 l34)))), (some (HE.mk false (HB.rows (B.iPortValue l35)))), (some (HE.mk false (HB.rows (B.iPortValue l36)))), (some (HE.mk false (HB.exp (some 69) [(SV.ptr 5 0 0), (SV.slc 6 none b116)]))), (some (HE.mk false (HB.rows (B.u8 l124))))])) (funext fun n41 => funext fun b46 => funext fun l37 => ih n41 b46 l37))
noncomputable def i_impl_PackMachine_wwwww_4 (N : Nat) {R : Type} (vs : List (Option AV)) (H : Hp E) (KL : Ex → List (Option AV) → Hp E → Option R) : Option R :=
 match vs, H with
 | [(some (AV.sc (SV.ptr 5 0 0))), (some (AV.sc (SV.ptr 6 0 0))), (some (AV.sc (SV.str s5))), (some (AV.sc (SV.int IntKind.i64 n40))), (some (AV.sc (SV.int IntKind.i64 n41)))], [(some (HE.mk false (HB.rows (B.i64 l32)))), (some (HE.mk false (HB.rows (B.i64 l33)))), (some (HE.mk false (HB.rows (B.i64 l34)))), (some (HE.mk false (HB.rows (B.iPortValue l35)))), (some (HE.mk false (HB.rows (B.iPortValue l36)))), (some (HE.mk false (HB.exp none [(SV.int IntKind.i64 n42), (SV.slc 0 none b41), (SV.int IntKind.i64 n43), (SV.slc 1 none b42), (SV.slc 2 none b43), (SV.str s6), (SV.int IntKind.i64 n44), (SV.int IntKind.i64 n45), (SV.int IntKind.i64 n46), (SV.slc 3 none b44), (SV.slc 4 none b45), (SV.int IntKind.i64 n47)]))), (some (HE.mk false (HB.exp (some 69) [(SV.ptr 6 0 0), (SV.slc 7 none b46)]))), (some (HE.mk false (HB.rows (B.u8 l37))))] => c_impl_PackMachine_wwwww_4 N s5 n40 l32 l33 l34 l35 l36 n42 b41 n43 b42 b43 s6 n44 n45 n46 b44 b45 n47 n41 b46 l37 (fun b117 l125 => KL Ex.normal [(some (AV.sc (SV.ptr 5 0 0)))] [(some (HE.mk false (HB.rows (B.i64 l32)))), (some (HE.mk false (HB.rows (B.i64 l33)))), (some (HE.mk false (HB.rows (B.i64 l34)))), (some (HE.mk false (HB.rows (B.iPortValue l35)))), (some (HE.mk false (HB.rows (B.iPortValue l36)))), (some (HE.mk false (HB.exp (some 69) [(SV.ptr 5 0 0), (SV.slc 6 none b117)]))), (some (HE.mk false (HB.rows (B.u8 l125))))])
 | _, _ => none
noncomputable def IT_impl_PackMachine_wwwww_4 (N : Nat) : Its E := addIt 4 (i_impl_PackMachine_wwwww_4 N) (IT_impl_PackMachine_wwwww_0 N)
theorem IT_impl_PackMachine_wwwww_4_ok (N : Nat) : ItOk (IT_impl_PackMachine_wwwww_4 N) 5 116 sl_impl_PackMachine_wwwww (lsB Try.f9 [4, 0, 2]) :=
  addItB_ok (inner := []) ok (O_impl_PackMachine_wwwww_ok N) (jn_ok _ _ _) (IT_impl_PackMachine_wwwww_0_ok N) rfl (by kernel_rfl) rfl fun vs H KL r h => by
    unfold i_impl_PackMachine_wwwww_4 at h
    split at h
    · exact ⟨_, (le_impl_PackMachine_wwwww_4 N _ _ _ _ _ _ _ _ _ _ _ _ _ _ _ _ _ _ _ KL N _ _ _).trans h⟩
    · cases h
noncomputable def g_impl_PackMachine_wwwww (N : Nat) {R : Type} (n : Int) (b : Bool) (n1 : Int) (b1 : Bool) (b2 : Bool) (s : ByteArray) (n2 : Int) (n3 : Int) (n4 : Int) (b3 : Bool) (b4 : Bool) (n5 : Int) (l : List Int) (l1 : List Int) (l2 : List Int) (l3 : List PortValue) (l4 : List PortValue) (k : ByteArray → (List Int) → (List Int) → (List Int) → Option R) : Option R :=
 (g_impl_MachineFault_wwwww N n b n1 b1 b2 s n2 n3 n4 b3 b4 n5 l l1 l2 l3 l4 fun n6 =>
 (cond (n6 != (0 : Int))
 (k (ByteArray.mk (List.toArray [])) l l1 l2)
 (g_strings_Builder_WriteString_Ww N (ByteArray.mk (List.toArray [(86 : UInt8), (77 : UInt8), (49 : UInt8), (10 : UInt8)])) true [] fun n7 b5 l5 =>
 (g_impl_PackMachine_1_wWw N false [(IntKind.wrap IntKind.i64 (Int.tdiv (((ByteArray.size s) : Nat) : Int) (256 : Int))), (((List.length l3) : Nat) : Int), (((List.length l4) : Nat) : Int), n, n1, n2, (Int.tmod n3 (4294967296 : Int)), (IntKind.wrap IntKind.i64 (Int.tdiv n3 (4294967296 : Int))), n4, n5] b5 l5 (
 (g_impl_PackMachine_1_wWw N b l b5 l5 (
 (g_impl_PackMachine_1_wWw N b1 l1 b5 l5 (
 (g_impl_PackMachine_1_wWw N b2 l2 b5 l5 (
 (c_impl_PackMachine_wwwww_0 N (IntKind.wrap IntKind.i64 (Int.tdiv (((ByteArray.size s) : Nat) : Int) (256 : Int))) false (2 : Int) l l1 l2 l3 l4 n b n1 b1 b2 s n2 n3 n4 b3 b4 n5 b3 b4 (0 : Int) b5 l5 fun b39 l30 =>
 (g_impl_yframeSet_Fimpl_PackMachine_2_Wwwwww N (IntKind.wrap IntKind.i64 (Int.tdiv (((ByteArray.size s) : Nat) : Int) (256 : Int))) n b n1 b1 b2 s n2 n3 n4 b3 b4 n5 l l1 l2 l3 l4 fun s4 =>
 (g_strings_Builder_WriteString_Ww_v1 N s4 b39 l30 fun n39 b40 l31 =>
 (c_impl_PackMachine_wwwww_4 N s4 (IntKind.wrap IntKind.i64 (Int.tdiv (((ByteArray.size s) : Nat) : Int) (256 : Int))) l l1 l2 l3 l4 n b n1 b1 b2 s n2 n3 n4 b3 b4 n5 (0 : Int) b40 l31 fun b49 l39 =>
 (cond b49
 (cond b49
 (g_impl_ymix N (ByteArray.mk (List.toArray [])) (61 : Int) fun n49 =>
 (g_impl_PutWord N n49 fun s7 =>
 (cond (Nat.ble (0 + (ByteArray.size s7)) 9223372036854775807)
 (cond (decide (((((ByteArray.size ((ByteArray.mk (List.toArray [])) ++ s7)) : Nat) : Int) > (65536 : Int))))
 (k (ByteArray.mk (List.toArray [])) l l1 l2)
 (k ((ByteArray.mk (List.toArray [])) ++ s7) l l1 l2))
 none)))
 (cond ((Nat.blt 0 (List.length l39)) && (Nat.ble (List.length l39) 9223372036854775807))
 (g_impl_ymix N (Go.Eng.toBytes l39) (61 : Int) fun n50 =>
 (g_impl_PutWord N n50 fun s8 =>
 (cond (Nat.ble (0 + (ByteArray.size s8)) 9223372036854775807)
 (cond (decide (((((ByteArray.size ((ByteArray.mk (List.toArray [])) ++ s8)) : Nat) : Int) > (65536 : Int))))
 (k (ByteArray.mk (List.toArray [])) l l1 l2)
 (k ((ByteArray.mk (List.toArray [])) ++ s8) l l1 l2))
 none)))
 none))
 (cond ((Nat.blt 0 (List.length l39)) && (Nat.ble (List.length l39) 9223372036854775807))
 (cond b49
 none
 (cond ((Nat.blt 0 (List.length l39)) && (Nat.ble (List.length l39) 9223372036854775807))
 (g_impl_ymix N (Go.Eng.toBytes l39) (61 : Int) fun n51 =>
 (g_impl_PutWord N n51 fun s9 =>
 (cond (Nat.ble ((ByteArray.size (Go.Eng.toBytes l39)) + (ByteArray.size s9)) 9223372036854775807)
 (cond (decide (((((ByteArray.size ((Go.Eng.toBytes l39) ++ s9)) : Nat) : Int) > (65536 : Int))))
 (k (ByteArray.mk (List.toArray [])) l l1 l2)
 (k ((Go.Eng.toBytes l39) ++ s9) l l1 l2))
 none)))
 none))
 none))))))) (fun l40 b50 l41 =>
 (c_impl_PackMachine_wwwww_0 N (IntKind.wrap IntKind.i64 (Int.tdiv (((ByteArray.size s) : Nat) : Int) (256 : Int))) false (2 : Int) l l1 l40 l3 l4 n b n1 b1 b2 s n2 n3 n4 b3 b4 n5 b3 b4 (0 : Int) b50 l41 fun b51 l42 =>
 (g_impl_yframeSet_Fimpl_PackMachine_2_Wwwwww N (IntKind.wrap IntKind.i64 (Int.tdiv (((ByteArray.size s) : Nat) : Int) (256 : Int))) n b n1 b1 b2 s n2 n3 n4 b3 b4 n5 l l1 l40 l3 l4 fun s10 =>
 (g_strings_Builder_WriteString_Ww_v1 N s10 b51 l42 fun n52 b52 l43 =>
 (c_impl_PackMachine_wwwww_4 N s10 (IntKind.wrap IntKind.i64 (Int.tdiv (((ByteArray.size s) : Nat) : Int) (256 : Int))) l l1 l40 l3 l4 n b n1 b1 b2 s n2 n3 n4 b3 b4 n5 (0 : Int) b52 l43 fun b53 l44 =>
 (cond b53
 (cond b53
 (g_impl_ymix N (ByteArray.mk (List.toArray [])) (61 : Int) fun n53 =>
 (g_impl_PutWord N n53 fun s11 =>
 (cond (Nat.ble (0 + (ByteArray.size s11)) 9223372036854775807)
 (cond (decide (((((ByteArray.size ((ByteArray.mk (List.toArray [])) ++ s11)) : Nat) : Int) > (65536 : Int))))
 (k (ByteArray.mk (List.toArray [])) l l1 l40)
 (k ((ByteArray.mk (List.toArray [])) ++ s11) l l1 l40))
 none)))
 (cond ((Nat.blt 0 (List.length l44)) && (Nat.ble (List.length l44) 9223372036854775807))
 (g_impl_ymix N (Go.Eng.toBytes l44) (61 : Int) fun n54 =>
 (g_impl_PutWord N n54 fun s12 =>
 (cond (Nat.ble (0 + (ByteArray.size s12)) 9223372036854775807)
 (cond (decide (((((ByteArray.size ((ByteArray.mk (List.toArray [])) ++ s12)) : Nat) : Int) > (65536 : Int))))
 (k (ByteArray.mk (List.toArray [])) l l1 l40)
 (k ((ByteArray.mk (List.toArray [])) ++ s12) l l1 l40))
 none)))
 none))
 (cond ((Nat.blt 0 (List.length l44)) && (Nat.ble (List.length l44) 9223372036854775807))
 (cond b53
 none
 (cond ((Nat.blt 0 (List.length l44)) && (Nat.ble (List.length l44) 9223372036854775807))
 (g_impl_ymix N (Go.Eng.toBytes l44) (61 : Int) fun n55 =>
 (g_impl_PutWord N n55 fun s13 =>
 (cond (Nat.ble ((ByteArray.size (Go.Eng.toBytes l44)) + (ByteArray.size s13)) 9223372036854775807)
 (cond (decide (((((ByteArray.size ((Go.Eng.toBytes l44) ++ s13)) : Nat) : Int) > (65536 : Int))))
 (k (ByteArray.mk (List.toArray [])) l l1 l40)
 (k ((Go.Eng.toBytes l44) ++ s13) l l1 l40))
 none)))
 none))
 none))))))))) (fun l45 b54 l46 =>
 (g_impl_PackMachine_1_wWw N b2 l2 b54 l46 (
 (c_impl_PackMachine_wwwww_0 N (IntKind.wrap IntKind.i64 (Int.tdiv (((ByteArray.size s) : Nat) : Int) (256 : Int))) false (2 : Int) l l45 l2 l3 l4 n b n1 b1 b2 s n2 n3 n4 b3 b4 n5 b3 b4 (0 : Int) b54 l46 fun b55 l47 =>
 (g_impl_yframeSet_Fimpl_PackMachine_2_Wwwwww N (IntKind.wrap IntKind.i64 (Int.tdiv (((ByteArray.size s) : Nat) : Int) (256 : Int))) n b n1 b1 b2 s n2 n3 n4 b3 b4 n5 l l45 l2 l3 l4 fun s14 =>
 (g_strings_Builder_WriteString_Ww_v1 N s14 b55 l47 fun n56 b56 l48 =>
 (c_impl_PackMachine_wwwww_4 N s14 (IntKind.wrap IntKind.i64 (Int.tdiv (((ByteArray.size s) : Nat) : Int) (256 : Int))) l l45 l2 l3 l4 n b n1 b1 b2 s n2 n3 n4 b3 b4 n5 (0 : Int) b56 l48 fun b57 l49 =>
 (cond b57
 (cond b57
 (g_impl_ymix N (ByteArray.mk (List.toArray [])) (61 : Int) fun n57 =>
 (g_impl_PutWord N n57 fun s15 =>
 (cond (Nat.ble (0 + (ByteArray.size s15)) 9223372036854775807)
 (cond (decide (((((ByteArray.size ((ByteArray.mk (List.toArray [])) ++ s15)) : Nat) : Int) > (65536 : Int))))
 (k (ByteArray.mk (List.toArray [])) l l45 l2)
 (k ((ByteArray.mk (List.toArray [])) ++ s15) l l45 l2))
 none)))
 (cond ((Nat.blt 0 (List.length l49)) && (Nat.ble (List.length l49) 9223372036854775807))
 (g_impl_ymix N (Go.Eng.toBytes l49) (61 : Int) fun n58 =>
 (g_impl_PutWord N n58 fun s16 =>
 (cond (Nat.ble (0 + (ByteArray.size s16)) 9223372036854775807)
 (cond (decide (((((ByteArray.size ((ByteArray.mk (List.toArray [])) ++ s16)) : Nat) : Int) > (65536 : Int))))
 (k (ByteArray.mk (List.toArray [])) l l45 l2)
 (k ((ByteArray.mk (List.toArray [])) ++ s16) l l45 l2))
 none)))
 none))
 (cond ((Nat.blt 0 (List.length l49)) && (Nat.ble (List.length l49) 9223372036854775807))
 (cond b57
 none
 (cond ((Nat.blt 0 (List.length l49)) && (Nat.ble (List.length l49) 9223372036854775807))
 (g_impl_ymix N (Go.Eng.toBytes l49) (61 : Int) fun n59 =>
 (g_impl_PutWord N n59 fun s17 =>
 (cond (Nat.ble ((ByteArray.size (Go.Eng.toBytes l49)) + (ByteArray.size s17)) 9223372036854775807)
 (cond (decide (((((ByteArray.size ((Go.Eng.toBytes l49) ++ s17)) : Nat) : Int) > (65536 : Int))))
 (k (ByteArray.mk (List.toArray [])) l l45 l2)
 (k ((Go.Eng.toBytes l49) ++ s17) l l45 l2))
 none)))
 none))
 none))))))) (fun l50 b58 l51 =>
 (c_impl_PackMachine_wwwww_0 N (IntKind.wrap IntKind.i64 (Int.tdiv (((ByteArray.size s) : Nat) : Int) (256 : Int))) false (2 : Int) l l45 l50 l3 l4 n b n1 b1 b2 s n2 n3 n4 b3 b4 n5 b3 b4 (0 : Int) b58 l51 fun b59 l52 =>
 (g_impl_yframeSet_Fimpl_PackMachine_2_Wwwwww N (IntKind.wrap IntKind.i64 (Int.tdiv (((ByteArray.size s) : Nat) : Int) (256 : Int))) n b n1 b1 b2 s n2 n3 n4 b3 b4 n5 l l45 l50 l3 l4 fun s18 =>
 (g_strings_Builder_WriteString_Ww_v1 N s18 b59 l52 fun n60 b60 l53 =>
 (c_impl_PackMachine_wwwww_4 N s18 (IntKind.wrap IntKind.i64 (Int.tdiv (((ByteArray.size s) : Nat) : Int) (256 : Int))) l l45 l50 l3 l4 n b n1 b1 b2 s n2 n3 n4 b3 b4 n5 (0 : Int) b60 l53 fun b61 l54 =>
 (cond b61
 (cond b61
 (g_impl_ymix N (ByteArray.mk (List.toArray [])) (61 : Int) fun n61 =>
 (g_impl_PutWord N n61 fun s19 =>
 (cond (Nat.ble (0 + (ByteArray.size s19)) 9223372036854775807)
 (cond (decide (((((ByteArray.size ((ByteArray.mk (List.toArray [])) ++ s19)) : Nat) : Int) > (65536 : Int))))
 (k (ByteArray.mk (List.toArray [])) l l45 l50)
 (k ((ByteArray.mk (List.toArray [])) ++ s19) l l45 l50))
 none)))
 (cond ((Nat.blt 0 (List.length l54)) && (Nat.ble (List.length l54) 9223372036854775807))
 (g_impl_ymix N (Go.Eng.toBytes l54) (61 : Int) fun n62 =>
 (g_impl_PutWord N n62 fun s20 =>
 (cond (Nat.ble (0 + (ByteArray.size s20)) 9223372036854775807)
 (cond (decide (((((ByteArray.size ((ByteArray.mk (List.toArray [])) ++ s20)) : Nat) : Int) > (65536 : Int))))
 (k (ByteArray.mk (List.toArray [])) l l45 l50)
 (k ((ByteArray.mk (List.toArray [])) ++ s20) l l45 l50))
 none)))
 none))
 (cond ((Nat.blt 0 (List.length l54)) && (Nat.ble (List.length l54) 9223372036854775807))
 (cond b61
 none
 (cond ((Nat.blt 0 (List.length l54)) && (Nat.ble (List.length l54) 9223372036854775807))
 (g_impl_ymix N (Go.Eng.toBytes l54) (61 : Int) fun n63 =>
 (g_impl_PutWord N n63 fun s21 =>
 (cond (Nat.ble ((ByteArray.size (Go.Eng.toBytes l54)) + (ByteArray.size s21)) 9223372036854775807)
 (cond (decide (((((ByteArray.size ((Go.Eng.toBytes l54) ++ s21)) : Nat) : Int) > (65536 : Int))))
 (k (ByteArray.mk (List.toArray [])) l l45 l50)
 (k ((Go.Eng.toBytes l54) ++ s21) l l45 l50))
 none)))
 none))
 none))))))))))) (fun l55 b62 l56 =>
 (g_impl_PackMachine_1_wWw N b1 l1 b62 l56 (
 (g_impl_PackMachine_1_wWw N b2 l2 b62 l56 (
 (c_impl_PackMachine_wwwww_0 N (IntKind.wrap IntKind.i64 (Int.tdiv (((ByteArray.size s) : Nat) : Int) (256 : Int))) false (2 : Int) l55 l1 l2 l3 l4 n b n1 b1 b2 s n2 n3 n4 b3 b4 n5 b3 b4 (0 : Int) b62 l56 fun b63 l57 =>
 (g_impl_yframeSet_Fimpl_PackMachine_2_Wwwwww N (IntKind.wrap IntKind.i64 (Int.tdiv (((ByteArray.size s) : Nat) : Int) (256 : Int))) n b n1 b1 b2 s n2 n3 n4 b3 b4 n5 l55 l1 l2 l3 l4 fun s22 =>
 (g_strings_Builder_WriteString_Ww_v1 N s22 b63 l57 fun n64 b64 l58 =>
 (c_impl_PackMachine_wwwww_4 N s22 (IntKind.wrap IntKind.i64 (Int.tdiv (((ByteArray.size s) : Nat) : Int) (256 : Int))) l55 l1 l2 l3 l4 n b n1 b1 b2 s n2 n3 n4 b3 b4 n5 (0 : Int) b64 l58 fun b65 l59 =>
 (cond b65
 (cond b65
 (g_impl_ymix N (ByteArray.mk (List.toArray [])) (61 : Int) fun n65 =>
 (g_impl_PutWord N n65 fun s23 =>
 (cond (Nat.ble (0 + (ByteArray.size s23)) 9223372036854775807)
 (cond (decide (((((ByteArray.size ((ByteArray.mk (List.toArray [])) ++ s23)) : Nat) : Int) > (65536 : Int))))
 (k (ByteArray.mk (List.toArray [])) l55 l1 l2)
 (k ((ByteArray.mk (List.toArray [])) ++ s23) l55 l1 l2))
 none)))
 (cond ((Nat.blt 0 (List.length l59)) && (Nat.ble (List.length l59) 9223372036854775807))
 (g_impl_ymix N (Go.Eng.toBytes l59) (61 : Int) fun n66 =>
 (g_impl_PutWord N n66 fun s24 =>
 (cond (Nat.ble (0 + (ByteArray.size s24)) 9223372036854775807)
 (cond (decide (((((ByteArray.size ((ByteArray.mk (List.toArray [])) ++ s24)) : Nat) : Int) > (65536 : Int))))
 (k (ByteArray.mk (List.toArray [])) l55 l1 l2)
 (k ((ByteArray.mk (List.toArray [])) ++ s24) l55 l1 l2))
 none)))
 none))
 (cond ((Nat.blt 0 (List.length l59)) && (Nat.ble (List.length l59) 9223372036854775807))
 (cond b65
 none
 (cond ((Nat.blt 0 (List.length l59)) && (Nat.ble (List.length l59) 9223372036854775807))
 (g_impl_ymix N (Go.Eng.toBytes l59) (61 : Int) fun n67 =>
 (g_impl_PutWord N n67 fun s25 =>
 (cond (Nat.ble ((ByteArray.size (Go.Eng.toBytes l59)) + (ByteArray.size s25)) 9223372036854775807)
 (cond (decide (((((ByteArray.size ((Go.Eng.toBytes l59) ++ s25)) : Nat) : Int) > (65536 : Int))))
 (k (ByteArray.mk (List.toArray [])) l55 l1 l2)
 (k ((Go.Eng.toBytes l59) ++ s25) l55 l1 l2))
 none)))
 none))
 none))))))) (fun l60 b66 l61 =>
 (c_impl_PackMachine_wwwww_0 N (IntKind.wrap IntKind.i64 (Int.tdiv (((ByteArray.size s) : Nat) : Int) (256 : Int))) false (2 : Int) l55 l1 l60 l3 l4 n b n1 b1 b2 s n2 n3 n4 b3 b4 n5 b3 b4 (0 : Int) b66 l61 fun b67 l62 =>
 (g_impl_yframeSet_Fimpl_PackMachine_2_Wwwwww N (IntKind.wrap IntKind.i64 (Int.tdiv (((ByteArray.size s) : Nat) : Int) (256 : Int))) n b n1 b1 b2 s n2 n3 n4 b3 b4 n5 l55 l1 l60 l3 l4 fun s26 =>
 (g_strings_Builder_WriteString_Ww_v1 N s26 b67 l62 fun n68 b68 l63 =>
 (c_impl_PackMachine_wwwww_4 N s26 (IntKind.wrap IntKind.i64 (Int.tdiv (((ByteArray.size s) : Nat) : Int) (256 : Int))) l55 l1 l60 l3 l4 n b n1 b1 b2 s n2 n3 n4 b3 b4 n5 (0 : Int) b68 l63 fun b69 l64 =>
 (cond b69
 (cond b69
 (g_impl_ymix N (ByteArray.mk (List.toArray [])) (61 : Int) fun n69 =>
 (g_impl_PutWord N n69 fun s27 =>
 (cond (Nat.ble (0 + (ByteArray.size s27)) 9223372036854775807)
 (cond (decide (((((ByteArray.size ((ByteArray.mk (List.toArray [])) ++ s27)) : Nat) : Int) > (65536 : Int))))
 (k (ByteArray.mk (List.toArray [])) l55 l1 l60)
 (k ((ByteArray.mk (List.toArray [])) ++ s27) l55 l1 l60))
 none)))
 (cond ((Nat.blt 0 (List.length l64)) && (Nat.ble (List.length l64) 9223372036854775807))
 (g_impl_ymix N (Go.Eng.toBytes l64) (61 : Int) fun n70 =>
 (g_impl_PutWord N n70 fun s28 =>
 (cond (Nat.ble (0 + (ByteArray.size s28)) 9223372036854775807)
 (cond (decide (((((ByteArray.size ((ByteArray.mk (List.toArray [])) ++ s28)) : Nat) : Int) > (65536 : Int))))
 (k (ByteArray.mk (List.toArray [])) l55 l1 l60)
 (k ((ByteArray.mk (List.toArray [])) ++ s28) l55 l1 l60))
 none)))
 none))
 (cond ((Nat.blt 0 (List.length l64)) && (Nat.ble (List.length l64) 9223372036854775807))
 (cond b69
 none
 (cond ((Nat.blt 0 (List.length l64)) && (Nat.ble (List.length l64) 9223372036854775807))
 (g_impl_ymix N (Go.Eng.toBytes l64) (61 : Int) fun n71 =>
 (g_impl_PutWord N n71 fun s29 =>
 (cond (Nat.ble ((ByteArray.size (Go.Eng.toBytes l64)) + (ByteArray.size s29)) 9223372036854775807)
 (cond (decide (((((ByteArray.size ((Go.Eng.toBytes l64) ++ s29)) : Nat) : Int) > (65536 : Int))))
 (k (ByteArray.mk (List.toArray [])) l55 l1 l60)
 (k ((Go.Eng.toBytes l64) ++ s29) l55 l1 l60))
 none)))
 none))
 none))))))))) (fun l65 b70 l66 =>
 (g_impl_PackMachine_1_wWw N b2 l2 b70 l66 (
 (c_impl_PackMachine_wwwww_0 N (IntKind.wrap IntKind.i64 (Int.tdiv (((ByteArray.size s) : Nat) : Int) (256 : Int))) false (2 : Int) l55 l65 l2 l3 l4 n b n1 b1 b2 s n2 n3 n4 b3 b4 n5 b3 b4 (0 : Int) b70 l66 fun b71 l67 =>
 (g_impl_yframeSet_Fimpl_PackMachine_2_Wwwwww N (IntKind.wrap IntKind.i64 (Int.tdiv (((ByteArray.size s) : Nat) : Int) (256 : Int))) n b n1 b1 b2 s n2 n3 n4 b3 b4 n5 l55 l65 l2 l3 l4 fun s30 =>
 (g_strings_Builder_WriteString_Ww_v1 N s30 b71 l67 fun n72 b72 l68 =>
 (c_impl_PackMachine_wwwww_4 N s30 (IntKind.wrap IntKind.i64 (Int.tdiv (((ByteArray.size s) : Nat) : Int) (256 : Int))) l55 l65 l2 l3 l4 n b n1 b1 b2 s n2 n3 n4 b3 b4 n5 (0 : Int) b72 l68 fun b73 l69 =>
 (cond b73
 (cond b73
 (g_impl_ymix N (ByteArray.mk (List.toArray [])) (61 : Int) fun n73 =>
 (g_impl_PutWord N n73 fun s31 =>
 (cond (Nat.ble (0 + (ByteArray.size s31)) 9223372036854775807)
 (cond (decide (((((ByteArray.size ((ByteArray.mk (List.toArray [])) ++ s31)) : Nat) : Int) > (65536 : Int))))
 (k (ByteArray.mk (List.toArray [])) l55 l65 l2)
 (k ((ByteArray.mk (List.toArray [])) ++ s31) l55 l65 l2))
 none)))
 (cond ((Nat.blt 0 (List.length l69)) && (Nat.ble (List.length l69) 9223372036854775807))
 (g_impl_ymix N (Go.Eng.toBytes l69) (61 : Int) fun n74 =>
 (g_impl_PutWord N n74 fun s32 =>
 (cond (Nat.ble (0 + (ByteArray.size s32)) 9223372036854775807)
 (cond (decide (((((ByteArray.size ((ByteArray.mk (List.toArray [])) ++ s32)) : Nat) : Int) > (65536 : Int))))
 (k (ByteArray.mk (List.toArray [])) l55 l65 l2)
 (k ((ByteArray.mk (List.toArray [])) ++ s32) l55 l65 l2))
 none)))
 none))
 (cond ((Nat.blt 0 (List.length l69)) && (Nat.ble (List.length l69) 9223372036854775807))
 (cond b73
 none
 (cond ((Nat.blt 0 (List.length l69)) && (Nat.ble (List.length l69) 9223372036854775807))
 (g_impl_ymix N (Go.Eng.toBytes l69) (61 : Int) fun n75 =>
 (g_impl_PutWord N n75 fun s33 =>
 (cond (Nat.ble ((ByteArray.size (Go.Eng.toBytes l69)) + (ByteArray.size s33)) 9223372036854775807)
 (cond (decide (((((ByteArray.size ((Go.Eng.toBytes l69) ++ s33)) : Nat) : Int) > (65536 : Int))))
 (k (ByteArray.mk (List.toArray [])) l55 l65 l2)
 (k ((Go.Eng.toBytes l69) ++ s33) l55 l65 l2))
 none)))
 none))
 none))))))) (fun l70 b74 l71 =>
 (c_impl_PackMachine_wwwww_0 N (IntKind.wrap IntKind.i64 (Int.tdiv (((ByteArray.size s) : Nat) : Int) (256 : Int))) false (2 : Int) l55 l65 l70 l3 l4 n b n1 b1 b2 s n2 n3 n4 b3 b4 n5 b3 b4 (0 : Int) b74 l71 fun b75 l72 =>
 (g_impl_yframeSet_Fimpl_PackMachine_2_Wwwwww N (IntKind.wrap IntKind.i64 (Int.tdiv (((ByteArray.size s) : Nat) : Int) (256 : Int))) n b n1 b1 b2 s n2 n3 n4 b3 b4 n5 l55 l65 l70 l3 l4 fun s34 =>
 (g_strings_Builder_WriteString_Ww_v1 N s34 b75 l72 fun n76 b76 l73 =>
 (c_impl_PackMachine_wwwww_4 N s34 (IntKind.wrap IntKind.i64 (Int.tdiv (((ByteArray.size s) : Nat) : Int) (256 : Int))) l55 l65 l70 l3 l4 n b n1 b1 b2 s n2 n3 n4 b3 b4 n5 (0 : Int) b76 l73 fun b77 l74 =>
 (cond b77
 (cond b77
 (g_impl_ymix N (ByteArray.mk (List.toArray [])) (61 : Int) fun n77 =>
 (g_impl_PutWord N n77 fun s35 =>
 (cond (Nat.ble (0 + (ByteArray.size s35)) 9223372036854775807)
 (cond (decide (((((ByteArray.size ((ByteArray.mk (List.toArray [])) ++ s35)) : Nat) : Int) > (65536 : Int))))
 (k (ByteArray.mk (List.toArray [])) l55 l65 l70)
 (k ((ByteArray.mk (List.toArray [])) ++ s35) l55 l65 l70))
 none)))
 (cond ((Nat.blt 0 (List.length l74)) && (Nat.ble (List.length l74) 9223372036854775807))
 (g_impl_ymix N (Go.Eng.toBytes l74) (61 : Int) fun n78 =>
 (g_impl_PutWord N n78 fun s36 =>
 (cond (Nat.ble (0 + (ByteArray.size s36)) 9223372036854775807)
 (cond (decide (((((ByteArray.size ((ByteArray.mk (List.toArray [])) ++ s36)) : Nat) : Int) > (65536 : Int))))
 (k (ByteArray.mk (List.toArray [])) l55 l65 l70)
 (k ((ByteArray.mk (List.toArray [])) ++ s36) l55 l65 l70))
 none)))
 none))
 (cond ((Nat.blt 0 (List.length l74)) && (Nat.ble (List.length l74) 9223372036854775807))
 (cond b77
 none
 (cond ((Nat.blt 0 (List.length l74)) && (Nat.ble (List.length l74) 9223372036854775807))
 (g_impl_ymix N (Go.Eng.toBytes l74) (61 : Int) fun n79 =>
 (g_impl_PutWord N n79 fun s37 =>
 (cond (Nat.ble ((ByteArray.size (Go.Eng.toBytes l74)) + (ByteArray.size s37)) 9223372036854775807)
 (cond (decide (((((ByteArray.size ((Go.Eng.toBytes l74) ++ s37)) : Nat) : Int) > (65536 : Int))))
 (k (ByteArray.mk (List.toArray [])) l55 l65 l70)
 (k ((Go.Eng.toBytes l74) ++ s37) l55 l65 l70))
 none)))
 none))
 none))))))))))))) (fun l75 b78 l76 =>
 (g_impl_PackMachine_1_wWw N b l b78 l76 (
 (g_impl_PackMachine_1_wWw N b1 l1 b78 l76 (
 (g_impl_PackMachine_1_wWw N b2 l2 b78 l76 (
 (c_impl_PackMachine_wwwww_0 N (IntKind.wrap IntKind.i64 (Int.tdiv (((ByteArray.size s) : Nat) : Int) (256 : Int))) false (2 : Int) l l1 l2 l3 l4 n b n1 b1 b2 s n2 n3 n4 b3 b4 n5 b3 b4 (0 : Int) b78 l76 fun b79 l77 =>
 (g_impl_yframeSet_Fimpl_PackMachine_2_Wwwwww N (IntKind.wrap IntKind.i64 (Int.tdiv (((ByteArray.size s) : Nat) : Int) (256 : Int))) n b n1 b1 b2 s n2 n3 n4 b3 b4 n5 l l1 l2 l3 l4 fun s38 =>
 (g_strings_Builder_WriteString_Ww_v1 N s38 b79 l77 fun n80 b80 l78 =>
 (c_impl_PackMachine_wwwww_4 N s38 (IntKind.wrap IntKind.i64 (Int.tdiv (((ByteArray.size s) : Nat) : Int) (256 : Int))) l l1 l2 l3 l4 n b n1 b1 b2 s n2 n3 n4 b3 b4 n5 (0 : Int) b80 l78 fun b81 l79 =>
 (cond b81
 (cond b81
 (g_impl_ymix N (ByteArray.mk (List.toArray [])) (61 : Int) fun n81 =>
 (g_impl_PutWord N n81 fun s39 =>
 (cond (Nat.ble (0 + (ByteArray.size s39)) 9223372036854775807)
 (cond (decide (((((ByteArray.size ((ByteArray.mk (List.toArray [])) ++ s39)) : Nat) : Int) > (65536 : Int))))
 (k (ByteArray.mk (List.toArray [])) l l1 l2)
 (k ((ByteArray.mk (List.toArray [])) ++ s39) l l1 l2))
 none)))
 (cond ((Nat.blt 0 (List.length l79)) && (Nat.ble (List.length l79) 9223372036854775807))
 (g_impl_ymix N (Go.Eng.toBytes l79) (61 : Int) fun n82 =>
 (g_impl_PutWord N n82 fun s40 =>
 (cond (Nat.ble (0 + (ByteArray.size s40)) 9223372036854775807)
 (cond (decide (((((ByteArray.size ((ByteArray.mk (List.toArray [])) ++ s40)) : Nat) : Int) > (65536 : Int))))
 (k (ByteArray.mk (List.toArray [])) l l1 l2)
 (k ((ByteArray.mk (List.toArray [])) ++ s40) l l1 l2))
 none)))
 none))
 (cond ((Nat.blt 0 (List.length l79)) && (Nat.ble (List.length l79) 9223372036854775807))
 (cond b81
 none
 (cond ((Nat.blt 0 (List.length l79)) && (Nat.ble (List.length l79) 9223372036854775807))
 (g_impl_ymix N (Go.Eng.toBytes l79) (61 : Int) fun n83 =>
 (g_impl_PutWord N n83 fun s41 =>
 (cond (Nat.ble ((ByteArray.size (Go.Eng.toBytes l79)) + (ByteArray.size s41)) 9223372036854775807)
 (cond (decide (((((ByteArray.size ((Go.Eng.toBytes l79) ++ s41)) : Nat) : Int) > (65536 : Int))))
 (k (ByteArray.mk (List.toArray [])) l l1 l2)
 (k ((Go.Eng.toBytes l79) ++ s41) l l1 l2))
 none)))
 none))
 none))))))) (fun l80 b82 l81 =>
 (c_impl_PackMachine_wwwww_0 N (IntKind.wrap IntKind.i64 (Int.tdiv (((ByteArray.size s) : Nat) : Int) (256 : Int))) false (2 : Int) l l1 l80 l3 l4 n b n1 b1 b2 s n2 n3 n4 b3 b4 n5 b3 b4 (0 : Int) b82 l81 fun b83 l82 =>
 (g_impl_yframeSet_Fimpl_PackMachine_2_Wwwwww N (IntKind.wrap IntKind.i64 (Int.tdiv (((ByteArray.size s) : Nat) : Int) (256 : Int))) n b n1 b1 b2 s n2 n3 n4 b3 b4 n5 l l1 l80 l3 l4 fun s42 =>
 (g_strings_Builder_WriteString_Ww_v1 N s42 b83 l82 fun n84 b84 l83 =>
 (c_impl_PackMachine_wwwww_4 N s42 (IntKind.wrap IntKind.i64 (Int.tdiv (((ByteArray.size s) : Nat) : Int) (256 : Int))) l l1 l80 l3 l4 n b n1 b1 b2 s n2 n3 n4 b3 b4 n5 (0 : Int) b84 l83 fun b85 l84 =>
 (cond b85
 (cond b85
 (g_impl_ymix N (ByteArray.mk (List.toArray [])) (61 : Int) fun n85 =>
 (g_impl_PutWord N n85 fun s43 =>
 (cond (Nat.ble (0 + (ByteArray.size s43)) 9223372036854775807)
 (cond (decide (((((ByteArray.size ((ByteArray.mk (List.toArray [])) ++ s43)) : Nat) : Int) > (65536 : Int))))
 (k (ByteArray.mk (List.toArray [])) l l1 l80)
 (k ((ByteArray.mk (List.toArray [])) ++ s43) l l1 l80))
 none)))
 (cond ((Nat.blt 0 (List.length l84)) && (Nat.ble (List.length l84) 9223372036854775807))
 (g_impl_ymix N (Go.Eng.toBytes l84) (61 : Int) fun n86 =>
 (g_impl_PutWord N n86 fun s44 =>
 (cond (Nat.ble (0 + (ByteArray.size s44)) 9223372036854775807)
 (cond (decide (((((ByteArray.size ((ByteArray.mk (List.toArray [])) ++ s44)) : Nat) : Int) > (65536 : Int))))
 (k (ByteArray.mk (List.toArray [])) l l1 l80)
 (k ((ByteArray.mk (List.toArray [])) ++ s44) l l1 l80))
 none)))
 none))
 (cond ((Nat.blt 0 (List.length l84)) && (Nat.ble (List.length l84) 9223372036854775807))
 (cond b85
 none
 (cond ((Nat.blt 0 (List.length l84)) && (Nat.ble (List.length l84) 9223372036854775807))
 (g_impl_ymix N (Go.Eng.toBytes l84) (61 : Int) fun n87 =>
 (g_impl_PutWord N n87 fun s45 =>
 (cond (Nat.ble ((ByteArray.size (Go.Eng.toBytes l84)) + (ByteArray.size s45)) 9223372036854775807)
 (cond (decide (((((ByteArray.size ((Go.Eng.toBytes l84) ++ s45)) : Nat) : Int) > (65536 : Int))))
 (k (ByteArray.mk (List.toArray [])) l l1 l80)
 (k ((Go.Eng.toBytes l84) ++ s45) l l1 l80))
 none)))
 none))
 none))))))))) (fun l85 b86 l86 =>
 (g_impl_PackMachine_1_wWw N b2 l2 b86 l86 (
 (c_impl_PackMachine_wwwww_0 N (IntKind.wrap IntKind.i64 (Int.tdiv (((ByteArray.size s) : Nat) : Int) (256 : Int))) false (2 : Int) l l85 l2 l3 l4 n b n1 b1 b2 s n2 n3 n4 b3 b4 n5 b3 b4 (0 : Int) b86 l86 fun b87 l87 =>
 (g_impl_yframeSet_Fimpl_PackMachine_2_Wwwwww N (IntKind.wrap IntKind.i64 (Int.tdiv (((ByteArray.size s) : Nat) : Int) (256 : Int))) n b n1 b1 b2 s n2 n3 n4 b3 b4 n5 l l85 l2 l3 l4 fun s46 =>
 (g_strings_Builder_WriteString_Ww_v1 N s46 b87 l87 fun n88 b88 l88 =>
 (c_impl_PackMachine_wwwww_4 N s46 (IntKind.wrap IntKind.i64 (Int.tdiv (((ByteArray.size s) : Nat) : Int) (256 : Int))) l l85 l2 l3 l4 n b n1 b1 b2 s n2 n3 n4 b3 b4 n5 (0 : Int) b88 l88 fun b89 l89 =>
 (cond b89
 (cond b89
 (g_impl_ymix N (ByteArray.mk (List.toArray [])) (61 : Int) fun n89 =>
 (g_impl_PutWord N n89 fun s47 =>
 (cond (Nat.ble (0 + (ByteArray.size s47)) 9223372036854775807)
 (cond (decide (((((ByteArray.size ((ByteArray.mk (List.toArray [])) ++ s47)) : Nat) : Int) > (65536 : Int))))
 (k (ByteArray.mk (List.toArray [])) l l85 l2)
 (k ((ByteArray.mk (List.toArray [])) ++ s47) l l85 l2))
 none)))
 (cond ((Nat.blt 0 (List.length l89)) && (Nat.ble (List.length l89) 9223372036854775807))
 (g_impl_ymix N (Go.Eng.toBytes l89) (61 : Int) fun n90 =>
 (g_impl_PutWord N n90 fun s48 =>
 (cond (Nat.ble (0 + (ByteArray.size s48)) 9223372036854775807)
 (cond (decide (((((ByteArray.size ((ByteArray.mk (List.toArray [])) ++ s48)) : Nat) : Int) > (65536 : Int))))
 (k (ByteArray.mk (List.toArray [])) l l85 l2)
 (k ((ByteArray.mk (List.toArray [])) ++ s48) l l85 l2))
 none)))
 none))
 (cond ((Nat.blt 0 (List.length l89)) && (Nat.ble (List.length l89) 9223372036854775807))
 (cond b89
 none
 (cond ((Nat.blt 0 (List.length l89)) && (Nat.ble (List.length l89) 9223372036854775807))
 (g_impl_ymix N (Go.Eng.toBytes l89) (61 : Int) fun n91 =>
 (g_impl_PutWord N n91 fun s49 =>
 (cond (Nat.ble ((ByteArray.size (Go.Eng.toBytes l89)) + (ByteArray.size s49)) 9223372036854775807)
 (cond (decide (((((ByteArray.size ((Go.Eng.toBytes l89) ++ s49)) : Nat) : Int) > (65536 : Int))))
 (k (ByteArray.mk (List.toArray [])) l l85 l2)
 (k ((Go.Eng.toBytes l89) ++ s49) l l85 l2))
 none)))
 none))
 none))))))) (fun l90 b90 l91 =>
 (c_impl_PackMachine_wwwww_0 N (IntKind.wrap IntKind.i64 (Int.tdiv (((ByteArray.size s) : Nat) : Int) (256 : Int))) false (2 : Int) l l85 l90 l3 l4 n b n1 b1 b2 s n2 n3 n4 b3 b4 n5 b3 b4 (0 : Int) b90 l91 fun b91 l92 =>
 (g_impl_yframeSet_Fimpl_PackMachine_2_Wwwwww N (IntKind.wrap IntKind.i64 (Int.tdiv (((ByteArray.size s) : Nat) : Int) (256 : Int))) n b n1 b1 b2 s n2 n3 n4 b3 b4 n5 l l85 l90 l3 l4 fun s50 =>
 (g_strings_Builder_WriteString_Ww_v1 N s50 b91 l92 fun n92 b92 l93 =>
 (c_impl_PackMachine_wwwww_4 N s50 (IntKind.wrap IntKind.i64 (Int.tdiv (((ByteArray.size s) : Nat) : Int) (256 : Int))) l l85 l90 l3 l4 n b n1 b1 b2 s n2 n3 n4 b3 b4 n5 (0 : Int) b92 l93 fun b93 l94 =>
 (cond b93
 (cond b93
 (g_impl_ymix N (ByteArray.mk (List.toArray [])) (61 : Int) fun n93 =>
 (g_impl_PutWord N n93 fun s51 =>
 (cond (Nat.ble (0 + (ByteArray.size s51)) 9223372036854775807)
 (cond (decide (((((ByteArray.size ((ByteArray.mk (List.toArray [])) ++ s51)) : Nat) : Int) > (65536 : Int))))
 (k (ByteArray.mk (List.toArray [])) l l85 l90)
 (k ((ByteArray.mk (List.toArray [])) ++ s51) l l85 l90))
 none)))
 (cond ((Nat.blt 0 (List.length l94)) && (Nat.ble (List.length l94) 9223372036854775807))
 (g_impl_ymix N (Go.Eng.toBytes l94) (61 : Int) fun n94 =>
 (g_impl_PutWord N n94 fun s52 =>
 (cond (Nat.ble (0 + (ByteArray.size s52)) 9223372036854775807)
 (cond (decide (((((ByteArray.size ((ByteArray.mk (List.toArray [])) ++ s52)) : Nat) : Int) > (65536 : Int))))
 (k (ByteArray.mk (List.toArray [])) l l85 l90)
 (k ((ByteArray.mk (List.toArray [])) ++ s52) l l85 l90))
 none)))
 none))
 (cond ((Nat.blt 0 (List.length l94)) && (Nat.ble (List.length l94) 9223372036854775807))
 (cond b93
 none
 (cond ((Nat.blt 0 (List.length l94)) && (Nat.ble (List.length l94) 9223372036854775807))
 (g_impl_ymix N (Go.Eng.toBytes l94) (61 : Int) fun n95 =>
 (g_impl_PutWord N n95 fun s53 =>
 (cond (Nat.ble ((ByteArray.size (Go.Eng.toBytes l94)) + (ByteArray.size s53)) 9223372036854775807)
 (cond (decide (((((ByteArray.size ((Go.Eng.toBytes l94) ++ s53)) : Nat) : Int) > (65536 : Int))))
 (k (ByteArray.mk (List.toArray [])) l l85 l90)
 (k ((Go.Eng.toBytes l94) ++ s53) l l85 l90))
 none)))
 none))
 none))))))))))) (fun l95 b94 l96 =>
 (g_impl_PackMachine_1_wWw N b1 l1 b94 l96 (
 (g_impl_PackMachine_1_wWw N b2 l2 b94 l96 (
 (c_impl_PackMachine_wwwww_0 N (IntKind.wrap IntKind.i64 (Int.tdiv (((ByteArray.size s) : Nat) : Int) (256 : Int))) false (2 : Int) l95 l1 l2 l3 l4 n b n1 b1 b2 s n2 n3 n4 b3 b4 n5 b3 b4 (0 : Int) b94 l96 fun b95 l97 =>
 (g_impl_yframeSet_Fimpl_PackMachine_2_Wwwwww N (IntKind.wrap IntKind.i64 (Int.tdiv (((ByteArray.size s) : Nat) : Int) (256 : Int))) n b n1 b1 b2 s n2 n3 n4 b3 b4 n5 l95 l1 l2 l3 l4 fun s54 =>
 (g_strings_Builder_WriteString_Ww_v1 N s54 b95 l97 fun n96 b96 l98 =>
 (c_impl_PackMachine_wwwww_4 N s54 (IntKind.wrap IntKind.i64 (Int.tdiv (((ByteArray.size s) : Nat) : Int) (256 : Int))) l95 l1 l2 l3 l4 n b n1 b1 b2 s n2 n3 n4 b3 b4 n5 (0 : Int) b96 l98 fun b97 l99 =>
 (cond b97
 (cond b97
 (g_impl_ymix N (ByteArray.mk (List.toArray [])) (61 : Int) fun n97 =>
 (g_impl_PutWord N n97 fun s55 =>
 (cond (Nat.ble (0 + (ByteArray.size s55)) 9223372036854775807)
 (cond (decide (((((ByteArray.size ((ByteArray.mk (List.toArray [])) ++ s55)) : Nat) : Int) > (65536 : Int))))
 (k (ByteArray.mk (List.toArray [])) l95 l1 l2)
 (k ((ByteArray.mk (List.toArray [])) ++ s55) l95 l1 l2))
 none)))
 (cond ((Nat.blt 0 (List.length l99)) && (Nat.ble (List.length l99) 9223372036854775807))
 (g_impl_ymix N (Go.Eng.toBytes l99) (61 : Int) fun n98 =>
 (g_impl_PutWord N n98 fun s56 =>
 (cond (Nat.ble (0 + (ByteArray.size s56)) 9223372036854775807)
 (cond (decide (((((ByteArray.size ((ByteArray.mk (List.toArray [])) ++ s56)) : Nat) : Int) > (65536 : Int))))
 (k (ByteArray.mk (List.toArray [])) l95 l1 l2)
 (k ((ByteArray.mk (List.toArray [])) ++ s56) l95 l1 l2))
 none)))
 none))
 (cond ((Nat.blt 0 (List.length l99)) && (Nat.ble (List.length l99) 9223372036854775807))
 (cond b97
 none
 (cond ((Nat.blt 0 (List.length l99)) && (Nat.ble (List.length l99) 9223372036854775807))
 (g_impl_ymix N (Go.Eng.toBytes l99) (61 : Int) fun n99 =>
 (g_impl_PutWord N n99 fun s57 =>
 (cond (Nat.ble ((ByteArray.size (Go.Eng.toBytes l99)) + (ByteArray.size s57)) 9223372036854775807)
 (cond (decide (((((ByteArray.size ((Go.Eng.toBytes l99) ++ s57)) : Nat) : Int) > (65536 : Int))))
 (k (ByteArray.mk (List.toArray [])) l95 l1 l2)
 (k ((Go.Eng.toBytes l99) ++ s57) l95 l1 l2))
 none)))
 none))
 none))))))) (fun l100 b98 l101 =>
 (c_impl_PackMachine_wwwww_0 N (IntKind.wrap IntKind.i64 (Int.tdiv (((ByteArray.size s) : Nat) : Int) (256 : Int))) false (2 : Int) l95 l1 l100 l3 l4 n b n1 b1 b2 s n2 n3 n4 b3 b4 n5 b3 b4 (0 : Int) b98 l101 fun b99 l102 =>
 (g_impl_yframeSet_Fimpl_PackMachine_2_Wwwwww N (IntKind.wrap IntKind.i64 (Int.tdiv (((ByteArray.size s) : Nat) : Int) (256 : Int))) n b n1 b1 b2 s n2 n3 n4 b3 b4 n5 l95 l1 l100 l3 l4 fun s58 =>
 (g_strings_Builder_WriteString_Ww_v1 N s58 b99 l102 fun n100 b100 l103 =>
 (c_impl_PackMachine_wwwww_4 N s58 (IntKind.wrap IntKind.i64 (Int.tdiv (((ByteArray.size s) : Nat) : Int) (256 : Int))) l95 l1 l100 l3 l4 n b n1 b1 b2 s n2 n3 n4 b3 b4 n5 (0 : Int) b100 l103 fun b101 l104 =>
 (cond b101
 (cond b101
 (g_impl_ymix N (ByteArray.mk (List.toArray [])) (61 : Int) fun n101 =>
 (g_impl_PutWord N n101 fun s59 =>
 (cond (Nat.ble (0 + (ByteArray.size s59)) 9223372036854775807)
 (cond (decide (((((ByteArray.size ((ByteArray.mk (List.toArray [])) ++ s59)) : Nat) : Int) > (65536 : Int))))
 (k (ByteArray.mk (List.toArray [])) l95 l1 l100)
 (k ((ByteArray.mk (List.toArray [])) ++ s59) l95 l1 l100))
 none)))
 (cond ((Nat.blt 0 (List.length l104)) && (Nat.ble (List.length l104) 9223372036854775807))
 (g_impl_ymix N (Go.Eng.toBytes l104) (61 : Int) fun n102 =>
 (g_impl_PutWord N n102 fun s60 =>
 (cond (Nat.ble (0 + (ByteArray.size s60)) 9223372036854775807)
 (cond (decide (((((ByteArray.size ((ByteArray.mk (List.toArray [])) ++ s60)) : Nat) : Int) > (65536 : Int))))
 (k (ByteArray.mk (List.toArray [])) l95 l1 l100)
 (k ((ByteArray.mk (List.toArray [])) ++ s60) l95 l1 l100))
 none)))
 none))
 (cond ((Nat.blt 0 (List.length l104)) && (Nat.ble (List.length l104) 9223372036854775807))
 (cond b101
 none
 (cond ((Nat.blt 0 (List.length l104)) && (Nat.ble (List.length l104) 9223372036854775807))
 (g_impl_ymix N (Go.Eng.toBytes l104) (61 : Int) fun n103 =>
 (g_impl_PutWord N n103 fun s61 =>
 (cond (Nat.ble ((ByteArray.size (Go.Eng.toBytes l104)) + (ByteArray.size s61)) 9223372036854775807)
 (cond (decide (((((ByteArray.size ((Go.Eng.toBytes l104) ++ s61)) : Nat) : Int) > (65536 : Int))))
 (k (ByteArray.mk (List.toArray [])) l95 l1 l100)
 (k ((Go.Eng.toBytes l104) ++ s61) l95 l1 l100))
 none)))
 none))
 none))))))))) (fun l105 b102 l106 =>
 (g_impl_PackMachine_1_wWw N b2 l2 b102 l106 (
 (c_impl_PackMachine_wwwww_0 N (IntKind.wrap IntKind.i64 (Int.tdiv (((ByteArray.size s) : Nat) : Int) (256 : Int))) false (2 : Int) l95 l105 l2 l3 l4 n b n1 b1 b2 s n2 n3 n4 b3 b4 n5 b3 b4 (0 : Int) b102 l106 fun b103 l107 =>
 (g_impl_yframeSet_Fimpl_PackMachine_2_Wwwwww N (IntKind.wrap IntKind.i64 (Int.tdiv (((ByteArray.size s) : Nat) : Int) (256 : Int))) n b n1 b1 b2 s n2 n3 n4 b3 b4 n5 l95 l105 l2 l3 l4 fun s62 =>
 (g_strings_Builder_WriteString_Ww_v1 N s62 b103 l107 fun n104 b104 l108 =>
 (c_impl_PackMachine_wwwww_4 N s62 (IntKind.wrap IntKind.i64 (Int.tdiv (((ByteArray.size s) : Nat) : Int) (256 : Int))) l95 l105 l2 l3 l4 n b n1 b1 b2 s n2 n3 n4 b3 b4 n5 (0 : Int) b104 l108 fun b105 l109 =>
 (cond b105
 (cond b105
 (g_impl_ymix N (ByteArray.mk (List.toArray [])) (61 : Int) fun n105 =>
 (g_impl_PutWord N n105 fun s63 =>
 (cond (Nat.ble (0 + (ByteArray.size s63)) 9223372036854775807)
 (cond (decide (((((ByteArray.size ((ByteArray.mk (List.toArray [])) ++ s63)) : Nat) : Int) > (65536 : Int))))
 (k (ByteArray.mk (List.toArray [])) l95 l105 l2)
 (k ((ByteArray.mk (List.toArray [])) ++ s63) l95 l105 l2))
 none)))
 (cond ((Nat.blt 0 (List.length l109)) && (Nat.ble (List.length l109) 9223372036854775807))
 (g_impl_ymix N (Go.Eng.toBytes l109) (61 : Int) fun n106 =>
 (g_impl_PutWord N n106 fun s64 =>
 (cond (Nat.ble (0 + (ByteArray.size s64)) 9223372036854775807)
 (cond (decide (((((ByteArray.size ((ByteArray.mk (List.toArray [])) ++ s64)) : Nat) : Int) > (65536 : Int))))
 (k (ByteArray.mk (List.toArray [])) l95 l105 l2)
 (k ((ByteArray.mk (List.toArray [])) ++ s64) l95 l105 l2))
 none)))
 none))
 (cond ((Nat.blt 0 (List.length l109)) && (Nat.ble (List.length l109) 9223372036854775807))
 (cond b105
 none
 (cond ((Nat.blt 0 (List.length l109)) && (Nat.ble (List.length l109) 9223372036854775807))
 (g_impl_ymix N (Go.Eng.toBytes l109) (61 : Int) fun n107 =>
 (g_impl_PutWord N n107 fun s65 =>
 (cond (Nat.ble ((ByteArray.size (Go.Eng.toBytes l109)) + (ByteArray.size s65)) 9223372036854775807)
 (cond (decide (((((ByteArray.size ((Go.Eng.toBytes l109) ++ s65)) : Nat) : Int) > (65536 : Int))))
 (k (ByteArray.mk (List.toArray [])) l95 l105 l2)
 (k ((Go.Eng.toBytes l109) ++ s65) l95 l105 l2))
 none)))
 none))
 none))))))) (fun l110 b106 l111 =>
 (c_impl_PackMachine_wwwww_0 N (IntKind.wrap IntKind.i64 (Int.tdiv (((ByteArray.size s) : Nat) : Int) (256 : Int))) false (2 : Int) l95 l105 l110 l3 l4 n b n1 b1 b2 s n2 n3 n4 b3 b4 n5 b3 b4 (0 : Int) b106 l111 fun b107 l112 =>
 (g_impl_yframeSet_Fimpl_PackMachine_2_Wwwwww N (IntKind.wrap IntKind.i64 (Int.tdiv (((ByteArray.size s) : Nat) : Int) (256 : Int))) n b n1 b1 b2 s n2 n3 n4 b3 b4 n5 l95 l105 l110 l3 l4 fun s66 =>
 (g_strings_Builder_WriteString_Ww_v1 N s66 b107 l112 fun n108 b108 l113 =>
 (c_impl_PackMachine_wwwww_4 N s66 (IntKind.wrap IntKind.i64 (Int.tdiv (((ByteArray.size s) : Nat) : Int) (256 : Int))) l95 l105 l110 l3 l4 n b n1 b1 b2 s n2 n3 n4 b3 b4 n5 (0 : Int) b108 l113 fun b109 l114 =>
 (cond b109
 (cond b109
 (g_impl_ymix N (ByteArray.mk (List.toArray [])) (61 : Int) fun n109 =>
 (g_impl_PutWord N n109 fun s67 =>
 (cond (Nat.ble (0 + (ByteArray.size s67)) 9223372036854775807)
 (cond (decide (((((ByteArray.size ((ByteArray.mk (List.toArray [])) ++ s67)) : Nat) : Int) > (65536 : Int))))
 (k (ByteArray.mk (List.toArray [])) l95 l105 l110)
 (k ((ByteArray.mk (List.toArray [])) ++ s67) l95 l105 l110))
 none)))
 (cond ((Nat.blt 0 (List.length l114)) && (Nat.ble (List.length l114) 9223372036854775807))
 (g_impl_ymix N (Go.Eng.toBytes l114) (61 : Int) fun n110 =>
 (g_impl_PutWord N n110 fun s68 =>
 (cond (Nat.ble (0 + (ByteArray.size s68)) 9223372036854775807)
 (cond (decide (((((ByteArray.size ((ByteArray.mk (List.toArray [])) ++ s68)) : Nat) : Int) > (65536 : Int))))
 (k (ByteArray.mk (List.toArray [])) l95 l105 l110)
 (k ((ByteArray.mk (List.toArray [])) ++ s68) l95 l105 l110))
 none)))
 none))
 (cond ((Nat.blt 0 (List.length l114)) && (Nat.ble (List.length l114) 9223372036854775807))
 (cond b109
 none
 (cond ((Nat.blt 0 (List.length l114)) && (Nat.ble (List.length l114) 9223372036854775807))
 (g_impl_ymix N (Go.Eng.toBytes l114) (61 : Int) fun n111 =>
 (g_impl_PutWord N n111 fun s69 =>
 (cond (Nat.ble ((ByteArray.size (Go.Eng.toBytes l114)) + (ByteArray.size s69)) 9223372036854775807)
 (cond (decide (((((ByteArray.size ((Go.Eng.toBytes l114) ++ s69)) : Nat) : Int) > (65536 : Int))))
 (k (ByteArray.mk (List.toArray [])) l95 l105 l110)
 (k ((Go.Eng.toBytes l114) ++ s69) l95 l105 l110))
 none)))
 none))
 none)))))))))))))))))
noncomputable def ga_g_impl_PackMachine_wwwww (N : Nat) (G_impl_PutWord : ∀ {R : Type} (n : Int) (k : ByteArray → Option R), Option R) (G_impl_ymix : ∀ {R : Type} (s : ByteArray) (n : Int) (k : Int → Option R), Option R) (G_impl_yhasBit : ∀ {R : Type} (s : ByteArray) (n : Int) (k : Bool → Option R), Option R) (G_impl_yframeSet_Fimpl_PackMachine_2_Wwwwww : ∀ {R : Type} (n : Int) (n1 : Int) (b : Bool) (n2 : Int) (b1 : Bool) (b2 : Bool) (s : ByteArray) (n3 : Int) (n4 : Int) (n5 : Int) (b3 : Bool) (b4 : Bool) (n6 : Int) (l : List Int) (l1 : List Int) (l2 : List Int) (l3 : List PortValue) (l4 : List PortValue) (k : ByteArray → Option R), Option R) (G_impl_PackMachine_1_wWw : ∀ {R : Type} (b : Bool) (l : List Int) (b1 : Bool) (l1 : List Int) (k : Option R) (k_1 : (List Int) → Bool → (List Int) → Option R), Option R) (G_strings_Builder_WriteString_Ww : ∀ {R : Type} (s : ByteArray) (b : Bool) (l : List Int) (k : Int → Bool → (List Int) → Option R), Option R) (G_strings_Builder_WriteString_Ww_v1 : ∀ {R : Type} (s : ByteArray) (b : Bool) (l : List Int) (k : Int → Bool → (List Int) → Option R), Option R) (G_impl_MachineFault_wwwww : ∀ {R : Type} (n : Int) (b : Bool) (n1 : Int) (b1 : Bool) (b2 : Bool) (s : ByteArray) (n2 : Int) (n3 : Int) (n4 : Int) (b3 : Bool) (b4 : Bool) (n5 : Int) (l : List Int) (l1 : List Int) (l2 : List Int) (l3 : List PortValue) (l4 : List PortValue) (k : Int → Option R), Option R) {R : Type} (n : Int) (b : Bool) (n1 : Int) (b1 : Bool) (b2 : Bool) (s : ByteArray) (n2 : Int) (n3 : Int) (n4 : Int) (b3 : Bool) (b4 : Bool) (n5 : Int) (l : List Int) (l1 : List Int) (l2 : List Int) (l3 : List PortValue) (l4 : List PortValue) (k : ByteArray → (List Int) → (List Int) → (List Int) → Option R) : Option R :=
 (G_impl_MachineFault_wwwww n b n1 b1 b2 s n2 n3 n4 b3 b4 n5 l l1 l2 l3 l4 fun n6 =>
 (cond (n6 != (0 : Int))
 (k (ByteArray.mk (List.toArray [])) l l1 l2)
 (G_strings_Builder_WriteString_Ww (ByteArray.mk (List.toArray [(86 : UInt8), (77 : UInt8), (49 : UInt8), (10 : UInt8)])) true [] fun n7 b5 l5 =>
 (G_impl_PackMachine_1_wWw false [(IntKind.wrap IntKind.i64 (Int.tdiv (((ByteArray.size s) : Nat) : Int) (256 : Int))), (((List.length l3) : Nat) : Int), (((List.length l4) : Nat) : Int), n, n1, n2, (Int.tmod n3 (4294967296 : Int)), (IntKind.wrap IntKind.i64 (Int.tdiv n3 (4294967296 : Int))), n4, n5] b5 l5 (
 (G_impl_PackMachine_1_wWw b l b5 l5 (
 (G_impl_PackMachine_1_wWw b1 l1 b5 l5 (
 (G_impl_PackMachine_1_wWw b2 l2 b5 l5 (
 (c_impl_PackMachine_wwwww_0 N (IntKind.wrap IntKind.i64 (Int.tdiv (((ByteArray.size s) : Nat) : Int) (256 : Int))) false (2 : Int) l l1 l2 l3 l4 n b n1 b1 b2 s n2 n3 n4 b3 b4 n5 b3 b4 (0 : Int) b5 l5 fun b39 l30 =>
 (G_impl_yframeSet_Fimpl_PackMachine_2_Wwwwww (IntKind.wrap IntKind.i64 (Int.tdiv (((ByteArray.size s) : Nat) : Int) (256 : Int))) n b n1 b1 b2 s n2 n3 n4 b3 b4 n5 l l1 l2 l3 l4 fun s4 =>
 (G_strings_Builder_WriteString_Ww_v1 s4 b39 l30 fun n39 b40 l31 =>
 (c_impl_PackMachine_wwwww_4 N s4 (IntKind.wrap IntKind.i64 (Int.tdiv (((ByteArray.size s) : Nat) : Int) (256 : Int))) l l1 l2 l3 l4 n b n1 b1 b2 s n2 n3 n4 b3 b4 n5 (0 : Int) b40 l31 fun b49 l39 =>
 (cond b49
 (cond b49
 (G_impl_ymix (ByteArray.mk (List.toArray [])) (61 : Int) fun n49 =>
 (G_impl_PutWord n49 fun s7 =>
 (cond (Nat.ble (0 + (ByteArray.size s7)) 9223372036854775807)
 (cond (decide (((((ByteArray.size ((ByteArray.mk (List.toArray [])) ++ s7)) : Nat) : Int) > (65536 : Int))))
 (k (ByteArray.mk (List.toArray [])) l l1 l2)
 (k ((ByteArray.mk (List.toArray [])) ++ s7) l l1 l2))
 none)))
 (cond ((Nat.blt 0 (List.length l39)) && (Nat.ble (List.length l39) 9223372036854775807))
 (G_impl_ymix (Go.Eng.toBytes l39) (61 : Int) fun n50 =>
 (G_impl_PutWord n50 fun s8 =>
 (cond (Nat.ble (0 + (ByteArray.size s8)) 9223372036854775807)
 (cond (decide (((((ByteArray.size ((ByteArray.mk (List.toArray [])) ++ s8)) : Nat) : Int) > (65536 : Int))))
 (k (ByteArray.mk (List.toArray [])) l l1 l2)
 (k ((ByteArray.mk (List.toArray [])) ++ s8) l l1 l2))
 none)))
 none))
 (cond ((Nat.blt 0 (List.length l39)) && (Nat.ble (List.length l39) 9223372036854775807))
 (cond b49
 none
 (cond ((Nat.blt 0 (List.length l39)) && (Nat.ble (List.length l39) 9223372036854775807))
 (G_impl_ymix (Go.Eng.toBytes l39) (61 : Int) fun n51 =>
 (G_impl_PutWord n51 fun s9 =>
 (cond (Nat.ble ((ByteArray.size (Go.Eng.toBytes l39)) + (ByteArray.size s9)) 9223372036854775807)
 (cond (decide (((((ByteArray.size ((Go.Eng.toBytes l39) ++ s9)) : Nat) : Int) > (65536 : Int))))
 (k (ByteArray.mk (List.toArray [])) l l1 l2)
 (k ((Go.Eng.toBytes l39) ++ s9) l l1 l2))
 none)))
 none))
 none))))))) (fun l40 b50 l41 =>
 (c_impl_PackMachine_wwwww_0 N (IntKind.wrap IntKind.i64 (Int.tdiv (((ByteArray.size s) : Nat) : Int) (256 : Int))) false (2 : Int) l l1 l40 l3 l4 n b n1 b1 b2 s n2 n3 n4 b3 b4 n5 b3 b4 (0 : Int) b50 l41 fun b51 l42 =>
 (G_impl_yframeSet_Fimpl_PackMachine_2_Wwwwww (IntKind.wrap IntKind.i64 (Int.tdiv (((ByteArray.size s) : Nat) : Int) (256 : Int))) n b n1 b1 b2 s n2 n3 n4 b3 b4 n5 l l1 l40 l3 l4 fun s10 =>
 (G_strings_Builder_WriteString_Ww_v1 s10 b51 l42 fun n52 b52 l43 =>
 (c_impl_PackMachine_wwwww_4 N s10 (IntKind.wrap IntKind.i64 (Int.tdiv (((ByteArray.size s) : Nat) : Int) (256 : Int))) l l1 l40 l3 l4 n b n1 b1 b2 s n2 n3 n4 b3 b4 n5 (0 : Int) b52 l43 fun b53 l44 =>
 (cond b53
 (cond b53
 (G_impl_ymix (ByteArray.mk (List.toArray [])) (61 : Int) fun n53 =>
 (G_impl_PutWord n53 fun s11 =>
 (cond (Nat.ble (0 + (ByteArray.size s11)) 9223372036854775807)
 (cond (decide (((((ByteArray.size ((ByteArray.mk (List.toArray [])) ++ s11)) : Nat) : Int) > (65536 : Int))))
 (k (ByteArray.mk (List.toArray [])) l l1 l40)
 (k ((ByteArray.mk (List.toArray [])) ++ s11) l l1 l40))
 none)))
 (cond ((Nat.blt 0 (List.length l44)) && (Nat.ble (List.length l44) 9223372036854775807))
 (G_impl_ymix (Go.Eng.toBytes l44) (61 : Int) fun n54 =>
 (G_impl_PutWord n54 fun s12 =>
 (cond (Nat.ble (0 + (ByteArray.size s12)) 9223372036854775807)
 (cond (decide (((((ByteArray.size ((ByteArray.mk (List.toArray [])) ++ s12)) : Nat) : Int) > (65536 : Int))))
 (k (ByteArray.mk (List.toArray [])) l l1 l40)
 (k ((ByteArray.mk (List.toArray [])) ++ s12) l l1 l40))
 none)))
 none))
 (cond ((Nat.blt 0 (List.length l44)) && (Nat.ble (List.length l44) 9223372036854775807))
 (cond b53
 none
 (cond ((Nat.blt 0 (List.length l44)) && (Nat.ble (List.length l44) 9223372036854775807))
 (G_impl_ymix (Go.Eng.toBytes l44) (61 : Int) fun n55 =>
 (G_impl_PutWord n55 fun s13 =>
 (cond (Nat.ble ((ByteArray.size (Go.Eng.toBytes l44)) + (ByteArray.size s13)) 9223372036854775807)
 (cond (decide (((((ByteArray.size ((Go.Eng.toBytes l44) ++ s13)) : Nat) : Int) > (65536 : Int))))
 (k (ByteArray.mk (List.toArray [])) l l1 l40)
 (k ((Go.Eng.toBytes l44) ++ s13) l l1 l40))
 none)))
 none))
 none))))))))) (fun l45 b54 l46 =>
 (G_impl_PackMachine_1_wWw b2 l2 b54 l46 (
 (c_impl_PackMachine_wwwww_0 N (IntKind.wrap IntKind.i64 (Int.tdiv (((ByteArray.size s) : Nat) : Int) (256 : Int))) false (2 : Int) l l45 l2 l3 l4 n b n1 b1 b2 s n2 n3 n4 b3 b4 n5 b3 b4 (0 : Int) b54 l46 fun b55 l47 =>
 (G_impl_yframeSet_Fimpl_PackMachine_2_Wwwwww (IntKind.wrap IntKind.i64 (Int.tdiv (((ByteArray.size s) : Nat) : Int) (256 : Int))) n b n1 b1 b2 s n2 n3 n4 b3 b4 n5 l l45 l2 l3 l4 fun s14 =>
 (G_strings_Builder_WriteString_Ww_v1 s14 b55 l47 fun n56 b56 l48 =>
 (c_impl_PackMachine_wwwww_4 N s14 (IntKind.wrap IntKind.i64 (Int.tdiv (((ByteArray.size s) : Nat) : Int) (256 : Int))) l l45 l2 l3 l4 n b n1 b1 b2 s n2 n3 n4 b3 b4 n5 (0 : Int) b56 l48 fun b57 l49 =>
 (cond b57
 (cond b57
 (G_impl_ymix (ByteArray.mk (List.toArray [])) (61 : Int) fun n57 =>
 (G_impl_PutWord n57 fun s15 =>
 (cond (Nat.ble (0 + (ByteArray.size s15)) 9223372036854775807)
 (cond (decide (((((ByteArray.size ((ByteArray.mk (List.toArray [])) ++ s15)) : Nat) : Int) > (65536 : Int))))
 (k (ByteArray.mk (List.toArray [])) l l45 l2)
 (k ((ByteArray.mk (List.toArray [])) ++ s15) l l45 l2))
 none)))
 (cond ((Nat.blt 0 (List.length l49)) && (Nat.ble (List.length l49) 9223372036854775807))
 (G_impl_ymix (Go.Eng.toBytes l49) (61 : Int) fun n58 =>
 (G_impl_PutWord n58 fun s16 =>
 (cond (Nat.ble (0 + (ByteArray.size s16)) 9223372036854775807)
 (cond (decide (((((ByteArray.size ((ByteArray.mk (List.toArray [])) ++ s16)) : Nat) : Int) > (65536 : Int))))
 (k (ByteArray.mk (List.toArray [])) l l45 l2)
 (k ((ByteArray.mk (List.toArray [])) ++ s16) l l45 l2))
 none)))
 none))
 (cond ((Nat.blt 0 (List.length l49)) && (Nat.ble (List.length l49) 9223372036854775807))
 (cond b57
 none
 (cond ((Nat.blt 0 (List.length l49)) && (Nat.ble (List.length l49) 9223372036854775807))
 (G_impl_ymix (Go.Eng.toBytes l49) (61 : Int) fun n59 =>
 (G_impl_PutWord n59 fun s17 =>
 (cond (Nat.ble ((ByteArray.size (Go.Eng.toBytes l49)) + (ByteArray.size s17)) 9223372036854775807)
 (cond (decide (((((ByteArray.size ((Go.Eng.toBytes l49) ++ s17)) : Nat) : Int) > (65536 : Int))))
 (k (ByteArray.mk (List.toArray [])) l l45 l2)
 (k ((Go.Eng.toBytes l49) ++ s17) l l45 l2))
 none)))
 none))
 none))))))) (fun l50 b58 l51 =>
 (c_impl_PackMachine_wwwww_0 N (IntKind.wrap IntKind.i64 (Int.tdiv (((ByteArray.size s) : Nat) : Int) (256 : Int))) false (2 : Int) l l45 l50 l3 l4 n b n1 b1 b2 s n2 n3 n4 b3 b4 n5 b3 b4 (0 : Int) b58 l51 fun b59 l52 =>
 (G_impl_yframeSet_Fimpl_PackMachine_2_Wwwwww (IntKind.wrap IntKind.i64 (Int.tdiv (((ByteArray.size s) : Nat) : Int) (256 : Int))) n b n1 b1 b2 s n2 n3 n4 b3 b4 n5 l l45 l50 l3 l4 fun s18 =>
 (G_strings_Builder_WriteString_Ww_v1 s18 b59 l52 fun n60 b60 l53 =>
 (c_impl_PackMachine_wwwww_4 N s18 (IntKind.wrap IntKind.i64 (Int.tdiv (((ByteArray.size s) : Nat) : Int) (256 : Int))) l l45 l50 l3 l4 n b n1 b1 b2 s n2 n3 n4 b3 b4 n5 (0 : Int) b60 l53 fun b61 l54 =>
 (cond b61
 (cond b61
 (G_impl_ymix (ByteArray.mk (List.toArray [])) (61 : Int) fun n61 =>
 (G_impl_PutWord n61 fun s19 =>
 (cond (Nat.ble (0 + (ByteArray.size s19)) 9223372036854775807)
 (cond (decide (((((ByteArray.size ((ByteArray.mk (List.toArray [])) ++ s19)) : Nat) : Int) > (65536 : Int))))
 (k (ByteArray.mk (List.toArray [])) l l45 l50)
 (k ((ByteArray.mk (List.toArray [])) ++ s19) l l45 l50))
 none)))
 (cond ((Nat.blt 0 (List.length l54)) && (Nat.ble (List.length l54) 9223372036854775807))
 (G_impl_ymix (Go.Eng.toBytes l54) (61 : Int) fun n62 =>
 (G_impl_PutWord n62 fun s20 =>
 (cond (Nat.ble (0 + (ByteArray.size s20)) 9223372036854775807)
 (cond (decide (((((ByteArray.size ((ByteArray.mk (List.toArray [])) ++ s20)) : Nat) : Int) > (65536 : Int))))
 (k (ByteArray.mk (List.toArray [])) l l45 l50)
 (k ((ByteArray.mk (List.toArray [])) ++ s20) l l45 l50))
 none)))
 none))
 (cond ((Nat.blt 0 (List.length l54)) && (Nat.ble (List.length l54) 9223372036854775807))
 (cond b61
 none
 (cond ((Nat.blt 0 (List.length l54)) && (Nat.ble (List.length l54) 9223372036854775807))
 (G_impl_ymix (Go.Eng.toBytes l54) (61 : Int) fun n63 =>
 (G_impl_PutWord n63 fun s21 =>
 (cond (Nat.ble ((ByteArray.size (Go.Eng.toBytes l54)) + (ByteArray.size s21)) 9223372036854775807)
 (cond (decide (((((ByteArray.size ((Go.Eng.toBytes l54) ++ s21)) : Nat) : Int) > (65536 : Int))))
 (k (ByteArray.mk (List.toArray [])) l l45 l50)
 (k ((Go.Eng.toBytes l54) ++ s21) l l45 l50))
 none)))
 none))
 none))))))))))) (fun l55 b62 l56 =>
 (G_impl_PackMachine_1_wWw b1 l1 b62 l56 (
 (G_impl_PackMachine_1_wWw b2 l2 b62 l56 (
 (c_impl_PackMachine_wwwww_0 N (IntKind.wrap IntKind.i64 (Int.tdiv (((ByteArray.size s) : Nat) : Int) (256 : Int))) false (2 : Int) l55 l1 l2 l3 l4 n b n1 b1 b2 s n2 n3 n4 b3 b4 n5 b3 b4 (0 : Int) b62 l56 fun b63 l57 =>
 (G_impl_yframeSet_Fimpl_PackMachine_2_Wwwwww (IntKind.wrap IntKind.i64 (Int.tdiv (((ByteArray.size s) : Nat) : Int) (256 : Int))) n b n1 b1 b2 s n2 n3 n4 b3 b4 n5 l55 l1 l2 l3 l4 fun s22 =>
 (G_strings_Builder_WriteString_Ww_v1 s22 b63 l57 fun n64 b64 l58 =>
 (c_impl_PackMachine_wwwww_4 N s22 (IntKind.wrap IntKind.i64 (Int.tdiv (((ByteArray.size s) : Nat) : Int) (256 : Int))) l55 l1 l2 l3 l4 n b n1 b1 b2 s n2 n3 n4 b3 b4 n5 (0 : Int) b64 l58 fun b65 l59 =>
 (cond b65
 (cond b65
 (G_impl_ymix (ByteArray.mk (List.toArray [])) (61 : Int) fun n65 =>
 (G_impl_PutWord n65 fun s23 =>
 (cond (Nat.ble (0 + (ByteArray.size s23)) 9223372036854775807)
 (cond (decide (((((ByteArray.size ((ByteArray.mk (List.toArray [])) ++ s23)) : Nat) : Int) > (65536 : Int))))
 (k (ByteArray.mk (List.toArray [])) l55 l1 l2)
 (k ((ByteArray.mk (List.toArray [])) ++ s23) l55 l1 l2))
 none)))
 (cond ((Nat.blt 0 (List.length l59)) && (Nat.ble (List.length l59) 9223372036854775807))
 (G_impl_ymix (Go.Eng.toBytes l59) (61 : Int) fun n66 =>
 (G_impl_PutWord n66 fun s24 =>
 (cond (Nat.ble (0 + (ByteArray.size s24)) 9223372036854775807)
 (cond (decide (((((ByteArray.size ((ByteArray.mk (List.toArray [])) ++ s24)) : Nat) : Int) > (65536 : Int))))
 (k (ByteArray.mk (List.toArray [])) l55 l1 l2)
 (k ((ByteArray.mk (List.toArray [])) ++ s24) l55 l1 l2))
 none)))
 none))
 (cond ((Nat.blt 0 (List.length l59)) && (Nat.ble (List.length l59) 9223372036854775807))
 (cond b65
 none
 (cond ((Nat.blt 0 (List.length l59)) && (Nat.ble (List.length l59) 9223372036854775807))
 (G_impl_ymix (Go.Eng.toBytes l59) (61 : Int) fun n67 =>
 (G_impl_PutWord n67 fun s25 =>
 (cond (Nat.ble ((ByteArray.size (Go.Eng.toBytes l59)) + (ByteArray.size s25)) 9223372036854775807)
 (cond (decide (((((ByteArray.size ((Go.Eng.toBytes l59) ++ s25)) : Nat) : Int) > (65536 : Int))))
 (k (ByteArray.mk (List.toArray [])) l55 l1 l2)
 (k ((Go.Eng.toBytes l59) ++ s25) l55 l1 l2))
 none)))
 none))
 none))))))) (fun l60 b66 l61 =>
 (c_impl_PackMachine_wwwww_0 N (IntKind.wrap IntKind.i64 (Int.tdiv (((ByteArray.size s) : Nat) : Int) (256 : Int))) false (2 : Int) l55 l1 l60 l3 l4 n b n1 b1 b2 s n2 n3 n4 b3 b4 n5 b3 b4 (0 : Int) b66 l61 fun b67 l62 =>
 (G_impl_yframeSet_Fimpl_PackMachine_2_Wwwwww (IntKind.wrap IntKind.i64 (Int.tdiv (((ByteArray.size s) : Nat) : Int) (256 : Int))) n b n1 b1 b2 s n2 n3 n4 b3 b4 n5 l55 l1 l60 l3 l4 fun s26 =>
 (G_strings_Builder_WriteString_Ww_v1 s26 b67 l62 fun n68 b68 l63 =>
 (c_impl_PackMachine_wwwww_4 N s26 (IntKind.wrap IntKind.i64 (Int.tdiv (((ByteArray.size s) : Nat) : Int) (256 : Int))) l55 l1 l60 l3 l4 n b n1 b1 b2 s n2 n3 n4 b3 b4 n5 (0 : Int) b68 l63 fun b69 l64 =>
 (cond b69
 (cond b69
 (G_impl_ymix (ByteArray.mk (List.toArray [])) (61 : Int) fun n69 =>
 (G_impl_PutWord n69 fun s27 =>
 (cond (Nat.ble (0 + (ByteArray.size s27)) 9223372036854775807)
 (cond (decide (((((ByteArray.size ((ByteArray.mk (List.toArray [])) ++ s27)) : Nat) : Int) > (65536 : Int))))
 (k (ByteArray.mk (List.toArray [])) l55 l1 l60)
 (k ((ByteArray.mk (List.toArray [])) ++ s27) l55 l1 l60))
 none)))
 (cond ((Nat.blt 0 (List.length l64)) && (Nat.ble (List.length l64) 9223372036854775807))
 (G_impl_ymix (Go.Eng.toBytes l64) (61 : Int) fun n70 =>
 (G_impl_PutWord n70 fun s28 =>
 (cond (Nat.ble (0 + (ByteArray.size s28)) 9223372036854775807)
 (cond (decide (((((ByteArray.size ((ByteArray.mk (List.toArray [])) ++ s28)) : Nat) : Int) > (65536 : Int))))
 (k (ByteArray.mk (List.toArray [])) l55 l1 l60)
 (k ((ByteArray.mk (List.toArray [])) ++ s28) l55 l1 l60))
 none)))
 none))
 (cond ((Nat.blt 0 (List.length l64)) && (Nat.ble (List.length l64) 9223372036854775807))
 (cond b69
 none
 (cond ((Nat.blt 0 (List.length l64)) && (Nat.ble (List.length l64) 9223372036854775807))
 (G_impl_ymix (Go.Eng.toBytes l64) (61 : Int) fun n71 =>
 (G_impl_PutWord n71 fun s29 =>
 (cond (Nat.ble ((ByteArray.size (Go.Eng.toBytes l64)) + (ByteArray.size s29)) 9223372036854775807)
 (cond (decide (((((ByteArray.size ((Go.Eng.toBytes l64) ++ s29)) : Nat) : Int) > (65536 : Int))))
 (k (ByteArray.mk (List.toArray [])) l55 l1 l60)
 (k ((Go.Eng.toBytes l64) ++ s29) l55 l1 l60))
 none)))
 none))
 none))))))))) (fun l65 b70 l66 =>
 (G_impl_PackMachine_1_wWw b2 l2 b70 l66 (
 (c_impl_PackMachine_wwwww_0 N (IntKind.wrap IntKind.i64 (Int.tdiv (((ByteArray.size s) : Nat) : Int) (256 : Int))) false (2 : Int) l55 l65 l2 l3 l4 n b n1 b1 b2 s n2 n3 n4 b3 b4 n5 b3 b4 (0 : Int) b70 l66 fun b71 l67 =>
 (G_impl_yframeSet_Fimpl_PackMachine_2_Wwwwww (IntKind.wrap IntKind.i64 (Int.tdiv (((ByteArray.size s) : Nat) : Int) (256 : Int))) n b n1 b1 b2 s n2 n3 n4 b3 b4 n5 l55 l65 l2 l3 l4 fun s30 =>
 (G_strings_Builder_WriteString_Ww_v1 s30 b71 l67 fun n72 b72 l68 =>
 (c_impl_PackMachine_wwwww_4 N s30 (IntKind.wrap IntKind.i64 (Int.tdiv (((ByteArray.size s) : Nat) : Int) (256 : Int))) l55 l65 l2 l3 l4 n b n1 b1 b2 s n2 n3 n4 b3 b4 n5 (0 : Int) b72 l68 fun b73 l69 =>
 (cond b73
 (cond b73
 (G_impl_ymix (ByteArray.mk (List.toArray [])) (61 : Int) fun n73 =>
 (G_impl_PutWord n73 fun s31 =>
 (cond (Nat.ble (0 + (ByteArray.size s31)) 9223372036854775807)
 (cond (decide (((((ByteArray.size ((ByteArray.mk (List.toArray [])) ++ s31)) : Nat) : Int) > (65536 : Int))))
 (k (ByteArray.mk (List.toArray [])) l55 l65 l2)
 (k ((ByteArray.mk (List.toArray [])) ++ s31) l55 l65 l2))
 none)))
 (cond ((Nat.blt 0 (List.length l69)) && (Nat.ble (List.length l69) 9223372036854775807))
 (G_impl_ymix (Go.Eng.toBytes l69) (61 : Int) fun n74 =>
 (G_impl_PutWord n74 fun s32 =>
 (cond (Nat.ble (0 + (ByteArray.size s32)) 9223372036854775807)
 (cond (decide (((((ByteArray.size ((ByteArray.mk (List.toArray [])) ++ s32)) : Nat) : Int) > (65536 : Int))))
 (k (ByteArray.mk (List.toArray [])) l55 l65 l2)
 (k ((ByteArray.mk (List.toArray [])) ++ s32) l55 l65 l2))
 none)))
 none))
 (cond ((Nat.blt 0 (List.length l69)) && (Nat.ble (List.length l69) 9223372036854775807))
 (cond b73
 none
 (cond ((Nat.blt 0 (List.length l69)) && (Nat.ble (List.length l69) 9223372036854775807))
 (G_impl_ymix (Go.Eng.toBytes l69) (61 : Int) fun n75 =>
 (G_impl_PutWord n75 fun s33 =>
 (cond (Nat.ble ((ByteArray.size (Go.Eng.toBytes l69)) + (ByteArray.size s33)) 9223372036854775807)
 (cond (decide (((((ByteArray.size ((Go.Eng.toBytes l69) ++ s33)) : Nat) : Int) > (65536 : Int))))
 (k (ByteArray.mk (List.toArray [])) l55 l65 l2)
 (k ((Go.Eng.toBytes l69) ++ s33) l55 l65 l2))
 none)))
 none))
 none))))))) (fun l70 b74 l71 =>
 (c_impl_PackMachine_wwwww_0 N (IntKind.wrap IntKind.i64 (Int.tdiv (((ByteArray.size s) : Nat) : Int) (256 : Int))) false (2 : Int) l55 l65 l70 l3 l4 n b n1 b1 b2 s n2 n3 n4 b3 b4 n5 b3 b4 (0 : Int) b74 l71 fun b75 l72 =>
 (G_impl_yframeSet_Fimpl_PackMachine_2_Wwwwww (IntKind.wrap IntKind.i64 (Int.tdiv (((ByteArray.size s) : Nat) : Int) (256 : Int))) n b n1 b1 b2 s n2 n3 n4 b3 b4 n5 l55 l65 l70 l3 l4 fun s34 =>
 (G_strings_Builder_WriteString_Ww_v1 s34 b75 l72 fun n76 b76 l73 =>
 (c_impl_PackMachine_wwwww_4 N s34 (IntKind.wrap IntKind.i64 (Int.tdiv (((ByteArray.size s) : Nat) : Int) (256 : Int))) l55 l65 l70 l3 l4 n b n1 b1 b2 s n2 n3 n4 b3 b4 n5 (0 : Int) b76 l73 fun b77 l74 =>
 (cond b77
 (cond b77
 (G_impl_ymix (ByteArray.mk (List.toArray [])) (61 : Int) fun n77 =>
 (G_impl_PutWord n77 fun s35 =>
 (cond (Nat.ble (0 + (ByteArray.size s35)) 9223372036854775807)
 (cond (decide (((((ByteArray.size ((ByteArray.mk (List.toArray [])) ++ s35)) : Nat) : Int) > (65536 : Int))))
 (k (ByteArray.mk (List.toArray [])) l55 l65 l70)
 (k ((ByteArray.mk (List.toArray [])) ++ s35) l55 l65 l70))
 none)))
 (cond ((Nat.blt 0 (List.length l74)) && (Nat.ble (List.length l74) 9223372036854775807))
 (G_impl_ymix (Go.Eng.toBytes l74) (61 : Int) fun n78 =>
 (G_impl_PutWord n78 fun s36 =>
 (cond (Nat.ble (0 + (ByteArray.size s36)) 9223372036854775807)
 (cond (decide (((((ByteArray.size ((ByteArray.mk (List.toArray [])) ++ s36)) : Nat) : Int) > (65536 : Int))))
 (k (ByteArray.mk (List.toArray [])) l55 l65 l70)
 (k ((ByteArray.mk (List.toArray [])) ++ s36) l55 l65 l70))
 none)))
 none))
 (cond ((Nat.blt 0 (List.length l74)) && (Nat.ble (List.length l74) 9223372036854775807))
 (cond b77
 none
 (cond ((Nat.blt 0 (List.length l74)) && (Nat.ble (List.length l74) 9223372036854775807))
 (G_impl_ymix (Go.Eng.toBytes l74) (61 : Int) fun n79 =>
 (G_impl_PutWord n79 fun s37 =>
 (cond (Nat.ble ((ByteArray.size (Go.Eng.toBytes l74)) + (ByteArray.size s37)) 9223372036854775807)
 (cond (decide (((((ByteArray.size ((Go.Eng.toBytes l74) ++ s37)) : Nat) : Int) > (65536 : Int))))
 (k (ByteArray.mk (List.toArray [])) l55 l65 l70)
 (k ((Go.Eng.toBytes l74) ++ s37) l55 l65 l70))
 none)))
 none))
 none))))))))))))) (fun l75 b78 l76 =>
 (G_impl_PackMachine_1_wWw b l b78 l76 (
 (G_impl_PackMachine_1_wWw b1 l1 b78 l76 (
 (G_impl_PackMachine_1_wWw b2 l2 b78 l76 (
 (c_impl_PackMachine_wwwww_0 N (IntKind.wrap IntKind.i64 (Int.tdiv (((ByteArray.size s) : Nat) : Int) (256 : Int))) false (2 : Int) l l1 l2 l3 l4 n b n1 b1 b2 s n2 n3 n4 b3 b4 n5 b3 b4 (0 : Int) b78 l76 fun b79 l77 =>
 (G_impl_yframeSet_Fimpl_PackMachine_2_Wwwwww (IntKind.wrap IntKind.i64 (Int.tdiv (((ByteArray.size s) : Nat) : Int) (256 : Int))) n b n1 b1 b2 s n2 n3 n4 b3 b4 n5 l l1 l2 l3 l4 fun s38 =>
 (G_strings_Builder_WriteString_Ww_v1 s38 b79 l77 fun n80 b80 l78 =>
 (c_impl_PackMachine_wwwww_4 N s38 (IntKind.wrap IntKind.i64 (Int.tdiv (((ByteArray.size s) : Nat) : Int) (256 : Int))) l l1 l2 l3 l4 n b n1 b1 b2 s n2 n3 n4 b3 b4 n5 (0 : Int) b80 l78 fun b81 l79 =>
 (cond b81
 (cond b81
 (G_impl_ymix (ByteArray.mk (List.toArray [])) (61 : Int) fun n81 =>
 (G_impl_PutWord n81 fun s39 =>
 (cond (Nat.ble (0 + (ByteArray.size s39)) 9223372036854775807)
 (cond (decide (((((ByteArray.size ((ByteArray.mk (List.toArray [])) ++ s39)) : Nat) : Int) > (65536 : Int))))
 (k (ByteArray.mk (List.toArray [])) l l1 l2)
 (k ((ByteArray.mk (List.toArray [])) ++ s39) l l1 l2))
 none)))
 (cond ((Nat.blt 0 (List.length l79)) && (Nat.ble (List.length l79) 9223372036854775807))
 (G_impl_ymix (Go.Eng.toBytes l79) (61 : Int) fun n82 =>
 (G_impl_PutWord n82 fun s40 =>
 (cond (Nat.ble (0 + (ByteArray.size s40)) 9223372036854775807)
 (cond (decide (((((ByteArray.size ((ByteArray.mk (List.toArray [])) ++ s40)) : Nat) : Int) > (65536 : Int))))
 (k (ByteArray.mk (List.toArray [])) l l1 l2)
 (k ((ByteArray.mk (List.toArray [])) ++ s40) l l1 l2))
 none)))
 none))
 (cond ((Nat.blt 0 (List.length l79)) && (Nat.ble (List.length l79) 9223372036854775807))
 (cond b81
 none
 (cond ((Nat.blt 0 (List.length l79)) && (Nat.ble (List.length l79) 9223372036854775807))
 (G_impl_ymix (Go.Eng.toBytes l79) (61 : Int) fun n83 =>
 (G_impl_PutWord n83 fun s41 =>
 (cond (Nat.ble ((ByteArray.size (Go.Eng.toBytes l79)) + (ByteArray.size s41)) 9223372036854775807)
 (cond (decide (((((ByteArray.size ((Go.Eng.toBytes l79) ++ s41)) : Nat) : Int) > (65536 : Int))))
 (k (ByteArray.mk (List.toArray [])) l l1 l2)
 (k ((Go.Eng.toBytes l79) ++ s41) l l1 l2))
 none)))
 none))
 none))))))) (fun l80 b82 l81 =>
 (c_impl_PackMachine_wwwww_0 N (IntKind.wrap IntKind.i64 (Int.tdiv (((ByteArray.size s) : Nat) : Int) (256 : Int))) false (2 : Int) l l1 l80 l3 l4 n b n1 b1 b2 s n2 n3 n4 b3 b4 n5 b3 b4 (0 : Int) b82 l81 fun b83 l82 =>
 (G_impl_yframeSet_Fimpl_PackMachine_2_Wwwwww (IntKind.wrap IntKind.i64 (Int.tdiv (((ByteArray.size s) : Nat) : Int) (256 : Int))) n b n1 b1 b2 s n2 n3 n4 b3 b4 n5 l l1 l80 l3 l4 fun s42 =>
 (G_strings_Builder_WriteString_Ww_v1 s42 b83 l82 fun n84 b84 l83 =>
 (c_impl_PackMachine_wwwww_4 N s42 (IntKind.wrap IntKind.i64 (Int.tdiv (((ByteArray.size s) : Nat) : Int) (256 : Int))) l l1 l80 l3 l4 n b n1 b1 b2 s n2 n3 n4 b3 b4 n5 (0 : Int) b84 l83 fun b85 l84 =>
 (cond b85
 (cond b85
 (G_impl_ymix (ByteArray.mk (List.toArray [])) (61 : Int) fun n85 =>
 (G_impl_PutWord n85 fun s43 =>
 (cond (Nat.ble (0 + (ByteArray.size s43)) 9223372036854775807)
 (cond (decide (((((ByteArray.size ((ByteArray.mk (List.toArray [])) ++ s43)) : Nat) : Int) > (65536 : Int))))
 (k (ByteArray.mk (List.toArray [])) l l1 l80)
 (k ((ByteArray.mk (List.toArray [])) ++ s43) l l1 l80))
 none)))
 (cond ((Nat.blt 0 (List.length l84)) && (Nat.ble (List.length l84) 9223372036854775807))
 (G_impl_ymix (Go.Eng.toBytes l84) (61 : Int) fun n86 =>
 (G_impl_PutWord n86 fun s44 =>
 (cond (Nat.ble (0 + (ByteArray.size s44)) 9223372036854775807)
 (cond (decide (((((ByteArray.size ((ByteArray.mk (List.toArray [])) ++ s44)) : Nat) : Int) > (65536 : Int))))
 (k (ByteArray.mk (List.toArray [])) l l1 l80)
 (k ((ByteArray.mk (List.toArray [])) ++ s44) l l1 l80))
 none)))
 none))
 (cond ((Nat.blt 0 (List.length l84)) && (Nat.ble (List.length l84) 9223372036854775807))
 (cond b85
 none
 (cond ((Nat.blt 0 (List.length l84)) && (Nat.ble (List.length l84) 9223372036854775807))
 (G_impl_ymix (Go.Eng.toBytes l84) (61 : Int) fun n87 =>
 (G_impl_PutWord n87 fun s45 =>
 (cond (Nat.ble ((ByteArray.size (Go.Eng.toBytes l84)) + (ByteArray.size s45)) 9223372036854775807)
 (cond (decide (((((ByteArray.size ((Go.Eng.toBytes l84) ++ s45)) : Nat) : Int) > (65536 : Int))))
 (k (ByteArray.mk (List.toArray [])) l l1 l80)
 (k ((Go.Eng.toBytes l84) ++ s45) l l1 l80))
 none)))
 none))
 none))))))))) (fun l85 b86 l86 =>
 (G_impl_PackMachine_1_wWw b2 l2 b86 l86 (
 (c_impl_PackMachine_wwwww_0 N (IntKind.wrap IntKind.i64 (Int.tdiv (((ByteArray.size s) : Nat) : Int) (256 : Int))) false (2 : Int) l l85 l2 l3 l4 n b n1 b1 b2 s n2 n3 n4 b3 b4 n5 b3 b4 (0 : Int) b86 l86 fun b87 l87 =>
 (G_impl_yframeSet_Fimpl_PackMachine_2_Wwwwww (IntKind.wrap IntKind.i64 (Int.tdiv (((ByteArray.size s) : Nat) : Int) (256 : Int))) n b n1 b1 b2 s n2 n3 n4 b3 b4 n5 l l85 l2 l3 l4 fun s46 =>
 (G_strings_Builder_WriteString_Ww_v1 s46 b87 l87 fun n88 b88 l88 =>
 (c_impl_PackMachine_wwwww_4 N s46 (IntKind.wrap IntKind.i64 (Int.tdiv (((ByteArray.size s) : Nat) : Int) (256 : Int))) l l85 l2 l3 l4 n b n1 b1 b2 s n2 n3 n4 b3 b4 n5 (0 : Int) b88 l88 fun b89 l89 =>
 (cond b89
 (cond b89
 (G_impl_ymix (ByteArray.mk (List.toArray [])) (61 : Int) fun n89 =>
 (G_impl_PutWord n89 fun s47 =>
 (cond (Nat.ble (0 + (ByteArray.size s47)) 9223372036854775807)
 (cond (decide (((((ByteArray.size ((ByteArray.mk (List.toArray [])) ++ s47)) : Nat) : Int) > (65536 : Int))))
 (k (ByteArray.mk (List.toArray [])) l l85 l2)
 (k ((ByteArray.mk (List.toArray [])) ++ s47) l l85 l2))
 none)))
 (cond ((Nat.blt 0 (List.length l89)) && (Nat.ble (List.length l89) 9223372036854775807))
 (G_impl_ymix (Go.Eng.toBytes l89) (61 : Int) fun n90 =>
 (G_impl_PutWord n90 fun s48 =>
 (cond (Nat.ble (0 + (ByteArray.size s48)) 9223372036854775807)
 (cond (decide (((((ByteArray.size ((ByteArray.mk (List.toArray [])) ++ s48)) : Nat) : Int) > (65536 : Int))))
 (k (ByteArray.mk (List.toArray [])) l l85 l2)
 (k ((ByteArray.mk (List.toArray [])) ++ s48) l l85 l2))
 none)))
 none))
 (cond ((Nat.blt 0 (List.length l89)) && (Nat.ble (List.length l89) 9223372036854775807))
 (cond b89
 none
 (cond ((Nat.blt 0 (List.length l89)) && (Nat.ble (List.length l89) 9223372036854775807))
 (G_impl_ymix (Go.Eng.toBytes l89) (61 : Int) fun n91 =>
 (G_impl_PutWord n91 fun s49 =>
 (cond (Nat.ble ((ByteArray.size (Go.Eng.toBytes l89)) + (ByteArray.size s49)) 9223372036854775807)
 (cond (decide (((((ByteArray.size ((Go.Eng.toBytes l89) ++ s49)) : Nat) : Int) > (65536 : Int))))
 (k (ByteArray.mk (List.toArray [])) l l85 l2)
 (k ((Go.Eng.toBytes l89) ++ s49) l l85 l2))
 none)))
 none))
 none))))))) (fun l90 b90 l91 =>
 (c_impl_PackMachine_wwwww_0 N (IntKind.wrap IntKind.i64 (Int.tdiv (((ByteArray.size s) : Nat) : Int) (256 : Int))) false (2 : Int) l l85 l90 l3 l4 n b n1 b1 b2 s n2 n3 n4 b3 b4 n5 b3 b4 (0 : Int) b90 l91 fun b91 l92 =>
 (G_impl_yframeSet_Fimpl_PackMachine_2_Wwwwww (IntKind.wrap IntKind.i64 (Int.tdiv (((ByteArray.size s) : Nat) : Int) (256 : Int))) n b n1 b1 b2 s n2 n3 n4 b3 b4 n5 l l85 l90 l3 l4 fun s50 =>
 (G_strings_Builder_WriteString_Ww_v1 s50 b91 l92 fun n92 b92 l93 =>
 (c_impl_PackMachine_wwwww_4 N s50 (IntKind.wrap IntKind.i64 (Int.tdiv (((ByteArray.size s) : Nat) : Int) (256 : Int))) l l85 l90 l3 l4 n b n1 b1 b2 s n2 n3 n4 b3 b4 n5 (0 : Int) b92 l93 fun b93 l94 =>
 (cond b93
 (cond b93
 (G_impl_ymix (ByteArray.mk (List.toArray [])) (61 : Int) fun n93 =>
 (G_impl_PutWord n93 fun s51 =>
 (cond (Nat.ble (0 + (ByteArray.size s51)) 9223372036854775807)
 (cond (decide (((((ByteArray.size ((ByteArray.mk (List.toArray [])) ++ s51)) : Nat) : Int) > (65536 : Int))))
 (k (ByteArray.mk (List.toArray [])) l l85 l90)
 (k ((ByteArray.mk (List.toArray [])) ++ s51) l l85 l90))
 none)))
 (cond ((Nat.blt 0 (List.length l94)) && (Nat.ble (List.length l94) 9223372036854775807))
 (G_impl_ymix (Go.Eng.toBytes l94) (61 : Int) fun n94 =>
 (G_impl_PutWord n94 fun s52 =>
 (cond (Nat.ble (0 + (ByteArray.size s52)) 9223372036854775807)
 (cond (decide (((((ByteArray.size ((ByteArray.mk (List.toArray [])) ++ s52)) : Nat) : Int) > (65536 : Int))))
 (k (ByteArray.mk (List.toArray [])) l l85 l90)
 (k ((ByteArray.mk (List.toArray [])) ++ s52) l l85 l90))
 none)))
 none))
 (cond ((Nat.blt 0 (List.length l94)) && (Nat.ble (List.length l94) 9223372036854775807))
 (cond b93
 none
 (cond ((Nat.blt 0 (List.length l94)) && (Nat.ble (List.length l94) 9223372036854775807))
 (G_impl_ymix (Go.Eng.toBytes l94) (61 : Int) fun n95 =>
 (G_impl_PutWord n95 fun s53 =>
 (cond (Nat.ble ((ByteArray.size (Go.Eng.toBytes l94)) + (ByteArray.size s53)) 9223372036854775807)
 (cond (decide (((((ByteArray.size ((Go.Eng.toBytes l94) ++ s53)) : Nat) : Int) > (65536 : Int))))
 (k (ByteArray.mk (List.toArray [])) l l85 l90)
 (k ((Go.Eng.toBytes l94) ++ s53) l l85 l90))
 none)))
 none))
 none))))))))))) (fun l95 b94 l96 =>
 (G_impl_PackMachine_1_wWw b1 l1 b94 l96 (
 (G_impl_PackMachine_1_wWw b2 l2 b94 l96 (
 (c_impl_PackMachine_wwwww_0 N (IntKind.wrap IntKind.i64 (Int.tdiv (((ByteArray.size s) : Nat) : Int) (256 : Int))) false (2 : Int) l95 l1 l2 l3 l4 n b n1 b1 b2 s n2 n3 n4 b3 b4 n5 b3 b4 (0 : Int) b94 l96 fun b95 l97 =>
 (G_impl_yframeSet_Fimpl_PackMachine_2_Wwwwww (IntKind.wrap IntKind.i64 (Int.tdiv (((ByteArray.size s) : Nat) : Int) (256 : Int))) n b n1 b1 b2 s n2 n3 n4 b3 b4 n5 l95 l1 l2 l3 l4 fun s54 =>
 (G_strings_Builder_WriteString_Ww_v1 s54 b95 l97 fun n96 b96 l98 =>
 (c_impl_PackMachine_wwwww_4 N s54 (IntKind.wrap IntKind.i64 (Int.tdiv (((ByteArray.size s) : Nat) : Int) (256 : Int))) l95 l1 l2 l3 l4 n b n1 b1 b2 s n2 n3 n4 b3 b4 n5 (0 : Int) b96 l98 fun b97 l99 =>
 (cond b97
 (cond b97
 (G_impl_ymix (ByteArray.mk (List.toArray [])) (61 : Int) fun n97 =>
 (G_impl_PutWord n97 fun s55 =>
 (cond (Nat.ble (0 + (ByteArray.size s55)) 9223372036854775807)
 (cond (decide (((((ByteArray.size ((ByteArray.mk (List.toArray [])) ++ s55)) : Nat) : Int) > (65536 : Int))))
 (k (ByteArray.mk (List.toArray [])) l95 l1 l2)
 (k ((ByteArray.mk (List.toArray [])) ++ s55) l95 l1 l2))
 none)))
 (cond ((Nat.blt 0 (List.length l99)) && (Nat.ble (List.length l99) 9223372036854775807))
 (G_impl_ymix (Go.Eng.toBytes l99) (61 : Int) fun n98 =>
 (G_impl_PutWord n98 fun s56 =>
 (cond (Nat.ble (0 + (ByteArray.size s56)) 9223372036854775807)
 (cond (decide (((((ByteArray.size ((ByteArray.mk (List.toArray [])) ++ s56)) : Nat) : Int) > (65536 : Int))))
 (k (ByteArray.mk (List.toArray [])) l95 l1 l2)
 (k ((ByteArray.mk (List.toArray [])) ++ s56) l95 l1 l2))
 none)))
 none))
 (cond ((Nat.blt 0 (List.length l99)) && (Nat.ble (List.length l99) 9223372036854775807))
 (cond b97
 none
 (cond ((Nat.blt 0 (List.length l99)) && (Nat.ble (List.length l99) 9223372036854775807))
 (G_impl_ymix (Go.Eng.toBytes l99) (61 : Int) fun n99 =>
 (G_impl_PutWord n99 fun s57 =>
 (cond (Nat.ble ((ByteArray.size (Go.Eng.toBytes l99)) + (ByteArray.size s57)) 9223372036854775807)
 (cond (decide (((((ByteArray.size ((Go.Eng.toBytes l99) ++ s57)) : Nat) : Int) > (65536 : Int))))
 (k (ByteArray.mk (List.toArray [])) l95 l1 l2)
 (k ((Go.Eng.toBytes l99) ++ s57) l95 l1 l2))
 none)))
 none))
 none))))))) (fun l100 b98 l101 =>
 (c_impl_PackMachine_wwwww_0 N (IntKind.wrap IntKind.i64 (Int.tdiv (((ByteArray.size s) : Nat) : Int) (256 : Int))) false (2 : Int) l95 l1 l100 l3 l4 n b n1 b1 b2 s n2 n3 n4 b3 b4 n5 b3 b4 (0 : Int) b98 l101 fun b99 l102 =>
 (G_impl_yframeSet_Fimpl_PackMachine_2_Wwwwww (IntKind.wrap IntKind.i64 (Int.tdiv (((ByteArray.size s) : Nat) : Int) (256 : Int))) n b n1 b1 b2 s n2 n3 n4 b3 b4 n5 l95 l1 l100 l3 l4 fun s58 =>
 (G_strings_Builder_WriteString_Ww_v1 s58 b99 l102 fun n100 b100 l103 =>
 (c_impl_PackMachine_wwwww_4 N s58 (IntKind.wrap IntKind.i64 (Int.tdiv (((ByteArray.size s) : Nat) : Int) (256 : Int))) l95 l1 l100 l3 l4 n b n1 b1 b2 s n2 n3 n4 b3 b4 n5 (0 : Int) b100 l103 fun b101 l104 =>
 (cond b101
 (cond b101
 (G_impl_ymix (ByteArray.mk (List.toArray [])) (61 : Int) fun n101 =>
 (G_impl_PutWord n101 fun s59 =>
 (cond (Nat.ble (0 + (ByteArray.size s59)) 9223372036854775807)
 (cond (decide (((((ByteArray.size ((ByteArray.mk (List.toArray [])) ++ s59)) : Nat) : Int) > (65536 : Int))))
 (k (ByteArray.mk (List.toArray [])) l95 l1 l100)
 (k ((ByteArray.mk (List.toArray [])) ++ s59) l95 l1 l100))
 none)))
 (cond ((Nat.blt 0 (List.length l104)) && (Nat.ble (List.length l104) 9223372036854775807))
 (G_impl_ymix (Go.Eng.toBytes l104) (61 : Int) fun n102 =>
 (G_impl_PutWord n102 fun s60 =>
 (cond (Nat.ble (0 + (ByteArray.size s60)) 9223372036854775807)
 (cond (decide (((((ByteArray.size ((ByteArray.mk (List.toArray [])) ++ s60)) : Nat) : Int) > (65536 : Int))))
 (k (ByteArray.mk (List.toArray [])) l95 l1 l100)
 (k ((ByteArray.mk (List.toArray [])) ++ s60) l95 l1 l100))
 none)))
 none))
 (cond ((Nat.blt 0 (List.length l104)) && (Nat.ble (List.length l104) 9223372036854775807))
 (cond b101
 none
 (cond ((Nat.blt 0 (List.length l104)) && (Nat.ble (List.length l104) 9223372036854775807))
 (G_impl_ymix (Go.Eng.toBytes l104) (61 : Int) fun n103 =>
 (G_impl_PutWord n103 fun s61 =>
 (cond (Nat.ble ((ByteArray.size (Go.Eng.toBytes l104)) + (ByteArray.size s61)) 9223372036854775807)
 (cond (decide (((((ByteArray.size ((Go.Eng.toBytes l104) ++ s61)) : Nat) : Int) > (65536 : Int))))
 (k (ByteArray.mk (List.toArray [])) l95 l1 l100)
 (k ((Go.Eng.toBytes l104) ++ s61) l95 l1 l100))
 none)))
 none))
 none))))))))) (fun l105 b102 l106 =>
 (G_impl_PackMachine_1_wWw b2 l2 b102 l106 (
 (c_impl_PackMachine_wwwww_0 N (IntKind.wrap IntKind.i64 (Int.tdiv (((ByteArray.size s) : Nat) : Int) (256 : Int))) false (2 : Int) l95 l105 l2 l3 l4 n b n1 b1 b2 s n2 n3 n4 b3 b4 n5 b3 b4 (0 : Int) b102 l106 fun b103 l107 =>
 (G_impl_yframeSet_Fimpl_PackMachine_2_Wwwwww (IntKind.wrap IntKind.i64 (Int.tdiv (((ByteArray.size s) : Nat) : Int) (256 : Int))) n b n1 b1 b2 s n2 n3 n4 b3 b4 n5 l95 l105 l2 l3 l4 fun s62 =>
 (G_strings_Builder_WriteString_Ww_v1 s62 b103 l107 fun n104 b104 l108 =>
 (c_impl_PackMachine_wwwww_4 N s62 (IntKind.wrap IntKind.i64 (Int.tdiv (((ByteArray.size s) : Nat) : Int) (256 : Int))) l95 l105 l2 l3 l4 n b n1 b1 b2 s n2 n3 n4 b3 b4 n5 (0 : Int) b104 l108 fun b105 l109 =>
 (cond b105
 (cond b105
 (G_impl_ymix (ByteArray.mk (List.toArray [])) (61 : Int) fun n105 =>
 (G_impl_PutWord n105 fun s63 =>
 (cond (Nat.ble (0 + (ByteArray.size s63)) 9223372036854775807)
 (cond (decide (((((ByteArray.size ((ByteArray.mk (List.toArray [])) ++ s63)) : Nat) : Int) > (65536 : Int))))
 (k (ByteArray.mk (List.toArray [])) l95 l105 l2)
 (k ((ByteArray.mk (List.toArray [])) ++ s63) l95 l105 l2))
 none)))
 (cond ((Nat.blt 0 (List.length l109)) && (Nat.ble (List.length l109) 9223372036854775807))
 (G_impl_ymix (Go.Eng.toBytes l109) (61 : Int) fun n106 =>
 (G_impl_PutWord n106 fun s64 =>
 (cond (Nat.ble (0 + (ByteArray.size s64)) 9223372036854775807)
 (cond (decide (((((ByteArray.size ((ByteArray.mk (List.toArray [])) ++ s64)) : Nat) : Int) > (65536 : Int))))
 (k (ByteArray.mk (List.toArray [])) l95 l105 l2)
 (k ((ByteArray.mk (List.toArray [])) ++ s64) l95 l105 l2))
 none)))
 none))
 (cond ((Nat.blt 0 (List.length l109)) && (Nat.ble (List.length l109) 9223372036854775807))
 (cond b105
 none
 (cond ((Nat.blt 0 (List.length l109)) && (Nat.ble (List.length l109) 9223372036854775807))
 (G_impl_ymix (Go.Eng.toBytes l109) (61 : Int) fun n107 =>
 (G_impl_PutWord n107 fun s65 =>
 (cond (Nat.ble ((ByteArray.size (Go.Eng.toBytes l109)) + (ByteArray.size s65)) 9223372036854775807)
 (cond (decide (((((ByteArray.size ((Go.Eng.toBytes l109) ++ s65)) : Nat) : Int) > (65536 : Int))))
 (k (ByteArray.mk (List.toArray [])) l95 l105 l2)
 (k ((Go.Eng.toBytes l109) ++ s65) l95 l105 l2))
 none)))
 none))
 none))))))) (fun l110 b106 l111 =>
 (c_impl_PackMachine_wwwww_0 N (IntKind.wrap IntKind.i64 (Int.tdiv (((ByteArray.size s) : Nat) : Int) (256 : Int))) false (2 : Int) l95 l105 l110 l3 l4 n b n1 b1 b2 s n2 n3 n4 b3 b4 n5 b3 b4 (0 : Int) b106 l111 fun b107 l112 =>
 (G_impl_yframeSet_Fimpl_PackMachine_2_Wwwwww (IntKind.wrap IntKind.i64 (Int.tdiv (((ByteArray.size s) : Nat) : Int) (256 : Int))) n b n1 b1 b2 s n2 n3 n4 b3 b4 n5 l95 l105 l110 l3 l4 fun s66 =>
 (G_strings_Builder_WriteString_Ww_v1 s66 b107 l112 fun n108 b108 l113 =>
 (c_impl_PackMachine_wwwww_4 N s66 (IntKind.wrap IntKind.i64 (Int.tdiv (((ByteArray.size s) : Nat) : Int) (256 : Int))) l95 l105 l110 l3 l4 n b n1 b1 b2 s n2 n3 n4 b3 b4 n5 (0 : Int) b108 l113 fun b109 l114 =>
 (cond b109
 (cond b109
 (G_impl_ymix (ByteArray.mk (List.toArray [])) (61 : Int) fun n109 =>
 (G_impl_PutWord n109 fun s67 =>
 (cond (Nat.ble (0 + (ByteArray.size s67)) 9223372036854775807)
 (cond (decide (((((ByteArray.size ((ByteArray.mk (List.toArray [])) ++ s67)) : Nat) : Int) > (65536 : Int))))
 (k (ByteArray.mk (List.toArray [])) l95 l105 l110)
 (k ((ByteArray.mk (List.toArray [])) ++ s67) l95 l105 l110))
 none)))
 (cond ((Nat.blt 0 (List.length l114)) && (Nat.ble (List.length l114) 9223372036854775807))
 (G_impl_ymix (Go.Eng.toBytes l114) (61 : Int) fun n110 =>
 (G_impl_PutWord n110 fun s68 =>
 (cond (Nat.ble (0 + (ByteArray.size s68)) 9223372036854775807)
 (cond (decide (((((ByteArray.size ((ByteArray.mk (List.toArray [])) ++ s68)) : Nat) : Int) > (65536 : Int))))
 (k (ByteArray.mk (List.toArray [])) l95 l105 l110)
 (k ((ByteArray.mk (List.toArray [])) ++ s68) l95 l105 l110))
 none)))
 none))
 (cond ((Nat.blt 0 (List.length l114)) && (Nat.ble (List.length l114) 9223372036854775807))
 (cond b109
 none
 (cond ((Nat.blt 0 (List.length l114)) && (Nat.ble (List.length l114) 9223372036854775807))
 (G_impl_ymix (Go.Eng.toBytes l114) (61 : Int) fun n111 =>
 (G_impl_PutWord n111 fun s69 =>
 (cond (Nat.ble ((ByteArray.size (Go.Eng.toBytes l114)) + (ByteArray.size s69)) 9223372036854775807)
 (cond (decide (((((ByteArray.size ((Go.Eng.toBytes l114) ++ s69)) : Nat) : Int) > (65536 : Int))))
 (k (ByteArray.mk (List.toArray [])) l95 l105 l110)
 (k ((Go.Eng.toBytes l114) ++ s69) l95 l105 l110))
 none)))
 none))
 none)))))))))))))))))
theorem ea_e_impl_PackMachine_wwwww (N : Nat) (G_impl_PutWord : ∀ {R : Type} (n : Int) (k : ByteArray → Option R), Option R) (G_impl_ymix : ∀ {R : Type} (s : ByteArray) (n : Int) (k : Int → Option R), Option R) (G_impl_yhasBit : ∀ {R : Type} (s : ByteArray) (n : Int) (k : Bool → Option R), Option R) (G_impl_yframeSet_Fimpl_PackMachine_2_Wwwwww : ∀ {R : Type} (n : Int) (n1 : Int) (b : Bool) (n2 : Int) (b1 : Bool) (b2 : Bool) (s : ByteArray) (n3 : Int) (n4 : Int) (n5 : Int) (b3 : Bool) (b4 : Bool) (n6 : Int) (l : List Int) (l1 : List Int) (l2 : List Int) (l3 : List PortValue) (l4 : List PortValue) (k : ByteArray → Option R), Option R) (G_impl_PackMachine_1_wWw : ∀ {R : Type} (b : Bool) (l : List Int) (b1 : Bool) (l1 : List Int) (k : Option R) (k_1 : (List Int) → Bool → (List Int) → Option R), Option R) (G_strings_Builder_WriteString_Ww : ∀ {R : Type} (s : ByteArray) (b : Bool) (l : List Int) (k : Int → Bool → (List Int) → Option R), Option R) (G_strings_Builder_WriteString_Ww_v1 : ∀ {R : Type} (s : ByteArray) (b : Bool) (l : List Int) (k : Int → Bool → (List Int) → Option R), Option R) (G_impl_MachineFault_wwwww : ∀ {R : Type} (n : Int) (b : Bool) (n1 : Int) (b1 : Bool) (b2 : Bool) (s : ByteArray) (n2 : Int) (n3 : Int) (n4 : Int) (b3 : Bool) (b4 : Bool) (n5 : Int) (l : List Int) (l1 : List Int) (l2 : List Int) (l3 : List PortValue) (l4 : List PortValue) (k : Int → Option R), Option R) {R : Type} (n : Int) (b : Bool) (n1 : Int) (b1 : Bool) (b2 : Bool) (s : ByteArray) (n2 : Int) (n3 : Int) (n4 : Int) (b3 : Bool) (b4 : Bool) (n5 : Int) (l : List Int) (l1 : List Int) (l2 : List Int) (l3 : List PortValue) (l4 : List PortValue) (K : AV → Hp E → Option R) :
    runFnI (E := E) (OA_impl_PackMachine_wwwww N G_impl_PutWord G_impl_ymix G_impl_yhasBit G_impl_yframeSet_Fimpl_PackMachine_2_Wwwwww G_impl_PackMachine_1_wWw G_strings_Builder_WriteString_Ww G_strings_Builder_WriteString_Ww_v1 G_impl_MachineFault_wwwww) (IT_impl_PackMachine_wwwww_4 N) sl_impl_PackMachine_wwwww J_impl_PackMachine_wwwww Try.f9 [(AV.agg [(SV.int IntKind.i64 n), (SV.slc 0 none b), (SV.int IntKind.i64 n1), (SV.slc 1 none b1), (SV.slc 2 none b2), (SV.str s), (SV.int IntKind.i64 n2), (SV.int IntKind.i64 n3), (SV.int IntKind.i64 n4), (SV.slc 3 none b3), (SV.slc 4 none b4), (SV.int IntKind.i64 n5)])] [(some (HE.mk false (HB.rows (B.i64 l)))), (some (HE.mk false (HB.rows (B.i64 l1)))), (some (HE.mk false (HB.rows (B.i64 l2)))), (some (HE.mk false (HB.rows (B.iPortValue l3)))), (some (HE.mk false (HB.rows (B.iPortValue l4))))] K =
      ga_g_impl_PackMachine_wwwww N G_impl_PutWord G_impl_ymix G_impl_yhasBit G_impl_yframeSet_Fimpl_PackMachine_2_Wwwwww G_impl_PackMachine_1_wWw G_strings_Builder_WriteString_Ww G_strings_Builder_WriteString_Ww_v1 G_impl_MachineFault_wwwww n b n1 b1 b2 s n2 n3 n4 b3 b4 n5 l l1 l2 l3 l4 (fun s70 l115 l116 l117 => K (AV.sc (SV.str s70)) [(some (HE.mk false (HB.rows (B.i64 l115)))), (some (HE.mk false (HB.rows (B.i64 l116)))), (some (HE.mk false (HB.rows (B.i64 l117)))), (some (HE.mk false (HB.rows (B.iPortValue l3)))), (some (HE.mk false (HB.rows (B.iPortValue l4))))]) := by kernel_rfl
theorem e_impl_PackMachine_wwwww (N : Nat) {R : Type} (n : Int) (b : Bool) (n1 : Int) (b1 : Bool) (b2 : Bool) (s : ByteArray) (n2 : Int) (n3 : Int) (n4 : Int) (b3 : Bool) (b4 : Bool) (n5 : Int) (l : List Int) (l1 : List Int) (l2 : List Int) (l3 : List PortValue) (l4 : List PortValue) (K : AV → Hp E → Option R) :
    runFnI (E := E) (O_impl_PackMachine_wwwww N) (IT_impl_PackMachine_wwwww_4 N) sl_impl_PackMachine_wwwww J_impl_PackMachine_wwwww Try.f9 [(AV.agg [(SV.int IntKind.i64 n), (SV.slc 0 none b), (SV.int IntKind.i64 n1), (SV.slc 1 none b1), (SV.slc 2 none b2), (SV.str s), (SV.int IntKind.i64 n2), (SV.int IntKind.i64 n3), (SV.int IntKind.i64 n4), (SV.slc 3 none b3), (SV.slc 4 none b4), (SV.int IntKind.i64 n5)])] [(some (HE.mk false (HB.rows (B.i64 l)))), (some (HE.mk false (HB.rows (B.i64 l1)))), (some (HE.mk false (HB.rows (B.i64 l2)))), (some (HE.mk false (HB.rows (B.iPortValue l3)))), (some (HE.mk false (HB.rows (B.iPortValue l4))))] K =
      g_impl_PackMachine_wwwww N n b n1 b1 b2 s n2 n3 n4 b3 b4 n5 l l1 l2 l3 l4 (fun s70 l115 l116 l117 => K (AV.sc (SV.str s70)) [(some (HE.mk false (HB.rows (B.i64 l115)))), (some (HE.mk false (HB.rows (B.i64 l116)))), (some (HE.mk false (HB.rows (B.i64 l117)))), (some (HE.mk false (HB.rows (B.iPortValue l3)))), (some (HE.mk false (HB.rows (B.iPortValue l4))))]) := castPr (by kernel_rfl) (ea_e_impl_PackMachine_wwwww N (g_impl_PutWord N) (g_impl_ymix N) (g_impl_yhasBit N) (g_impl_yframeSet_Fimpl_PackMachine_2_Wwwwww N) (g_impl_PackMachine_1_wWw N) (g_strings_Builder_WriteString_Ww N) (g_strings_Builder_WriteString_Ww_v1 N) (g_impl_MachineFault_wwwww N) n b n1 b1 b2 s n2 n3 n4 b3 b4 n5 l l1 l2 l3 l4 K)
noncomputable def o_impl_PackMachine_wwwww (N : Nat) {R : Type} (args : List AV) (H : Hp E) (K : AV → Hp E → Option R) : Option R :=
 match args, H with
 | [(AV.agg [(SV.int IntKind.i64 n), (SV.slc 0 none b), (SV.int IntKind.i64 n1), (SV.slc 1 none b1), (SV.slc 2 none b2), (SV.str s), (SV.int IntKind.i64 n2), (SV.int IntKind.i64 n3), (SV.int IntKind.i64 n4), (SV.slc 3 none b3), (SV.slc 4 none b4), (SV.int IntKind.i64 n5)])], [(some (HE.mk false (HB.rows (B.i64 l)))), (some (HE.mk false (HB.rows (B.i64 l1)))), (some (HE.mk false (HB.rows (B.i64 l2)))), (some (HE.mk false (HB.rows (B.iPortValue l3)))), (some (HE.mk false (HB.rows (B.iPortValue l4))))] => g_impl_PackMachine_wwwww N n b n1 b1 b2 s n2 n3 n4 b3 b4 n5 l l1 l2 l3 l4 (fun s70 l115 l116 l117 => K (AV.sc (SV.str s70)) [(some (HE.mk false (HB.rows (B.i64 l115)))), (some (HE.mk false (HB.rows (B.i64 l116)))), (some (HE.mk false (HB.rows (B.i64 l117)))), (some (HE.mk false (HB.rows (B.iPortValue l3)))), (some (HE.mk false (HB.rows (B.iPortValue l4))))])
 | _, _ => none
theorem o_impl_PackMachine_wwwww_ok (N : Nat) : FnOk E 9 (o_impl_PackMachine_wwwww N) := by
  intro R args H K r h
  unfold o_impl_PackMachine_wwwww at h
  dsimp only at h
  split at h
  · exact fnB_ok (ids := [4, 0, 2]) (top := [0, 4]) ok (O_impl_PackMachine_wwwww_ok N) (jn_ok _ _ _) Try.func9 (by kernel_rfl) (IT := IT_impl_PackMachine_wwwww_4 N) (sl := sl_impl_PackMachine_wwwww) (J := J_impl_PackMachine_wwwww) (K := K) (H := [(some (HE.mk false (HB.rows (B.i64 _)))), (some (HE.mk false (HB.rows (B.i64 _)))), (some (HE.mk false (HB.rows (B.i64 _)))), (some (HE.mk false (HB.rows (B.iPortValue _)))), (some (HE.mk false (HB.rows (B.iPortValue _))))]) (IT_impl_PackMachine_wwwww_4_ok N) (by kernel_rfl) rfl ((e_impl_PackMachine_wwwww N _ _ _ _ _ _ _ _ _ _ _ _ _ _ _ _ _ K).trans h)
  · cases h
end Go.Sa
