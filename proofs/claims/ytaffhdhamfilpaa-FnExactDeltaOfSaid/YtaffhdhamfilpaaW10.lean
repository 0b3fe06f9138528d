import Derived.Test.YtaffhdhamfilpaaSpec
import Derived.Test.YtaffhdhamfilpaaPLb
import Derived.Test.YtaffhdhamfilpaaW9
set_option linter.all false
namespace Go.Sa
open Go Go.Eng Go.Proofs
set_option maxRecDepth 100000
set_option maxHeartbeats 4000000
/-! ### loop.example/g00038/impl.yjoin -/
abbrev sl_impl_yjoin_w : SlotT := []
abbrev J_impl_yjoin_w : JT := jn [] [] []
noncomputable def O_impl_yjoin_w (N : Nat) : Orc E := addFn 83 osp_83 (noFn)
theorem O_impl_yjoin_w_ok (N : Nat) : OrcOk (O_impl_yjoin_w N) := addFn_ok osp_83_ok (noFn_ok)
noncomputable def g_impl_yjoin_w (N : Nat) {R : Type} (b : Bool) (l : List ByteArray) (k : ByteArray → Option R) : Option R :=
 (cond (Go.Eng.joinOk l (ByteArray.mk (List.toArray [])))
 (k (Go.Eng.joinB l (ByteArray.mk (List.toArray []))))
 none)
theorem e_impl_yjoin_w (N : Nat) {R : Type} (b : Bool) (l : List ByteArray) (K : AV → Hp E → Option R) :
    runFnI (E := E) (O_impl_yjoin_w N) (noIt) sl_impl_yjoin_w J_impl_yjoin_w Try.f49 [(AV.sc (SV.slc 0 none b))] [(some (HE.mk false (HB.rows (B.str l))))] K =
      g_impl_yjoin_w N b l (fun s => K (AV.sc (SV.str s)) [(some (HE.mk false (HB.rows (B.str l))))]) := by kernel_rfl
noncomputable def o_impl_yjoin_w (N : Nat) {R : Type} (args : List AV) (H : Hp E) (K : AV → Hp E → Option R) : Option R :=
 match args, H with
 | [(AV.sc (SV.slc 0 none b))], [(some (HE.mk false (HB.rows (B.str l))))] => g_impl_yjoin_w N b l (fun s => K (AV.sc (SV.str s)) [(some (HE.mk false (HB.rows (B.str l))))])
 | _, _ => none
theorem o_impl_yjoin_w_ok (N : Nat) : FnOk E 49 (o_impl_yjoin_w N) := by
  intro R args H K r h
  unfold o_impl_yjoin_w at h
  dsimp only at h
  split at h
  · exact fnB_ok (ids := []) (top := []) ok (O_impl_yjoin_w_ok N) (jn_ok _ _ _) Try.func49 (by kernel_rfl) (IT := noIt) (sl := sl_impl_yjoin_w) (J := J_impl_yjoin_w) (K := K) (H := [(some (HE.mk false (HB.rows (B.str _))))]) (noIt_ok) (by kernel_rfl) rfl ((e_impl_yjoin_w N _ _ K).trans h)
  · cases h
/-! ### loop.example/g00038/impl.DeltaOf -/
abbrev sl_impl_DeltaOf_wwwwwwwwww : SlotT := []
abbrev J_impl_DeltaOf_wwwwwwwwww : JT := jn [(1, [(26, .b)]), (9, [(56, .b)])] [] []
noncomputable def O_impl_DeltaOf_wwwwwwwwww (N : Nat) : Orc E := addFn 49 (o_impl_yjoin_w N) (addFn 38 (o_impl_PutWord N) (addFn 44 (o_impl_ymix N) (addFn 9 (o_impl_PackMachine_wwwww N) (addFn 39 (o_impl_yframeSet_Fimpl_DeltaOf_1_WWWwwwwwwwwwww N) (addFn 35 (o_impl_MachineFault_rrrrr N) (noFn))))))
noncomputable def pa_impl_DeltaOf_wwwwwwwwww__o_impl_yjoin_w (N : Nat) (G_impl_yjoin_w : ∀ {R : Type} (b : Bool) (l : List ByteArray) (k : ByteArray → Option R), Option R) {R : Type} (args : List AV) (H : Hp E) (K : AV → Hp E → Option R) : Option R :=
 match args, H with
 | [(AV.sc (SV.slc 0 none b))], [(some (HE.mk false (HB.rows (B.str l))))] => G_impl_yjoin_w b l (fun s => K (AV.sc (SV.str s)) [(some (HE.mk false (HB.rows (B.str l))))])
 | _, _ => none
noncomputable def pa_impl_DeltaOf_wwwwwwwwww__o_impl_PutWord (N : Nat) (G_impl_PutWord : ∀ {R : Type} (n : Int) (k : ByteArray → Option R), Option R) {R : Type} (args : List AV) (H : Hp E) (K : AV → Hp E → Option R) : Option R :=
 match args, H with
 | [(AV.sc (SV.int IntKind.i64 n))], [] => G_impl_PutWord n (fun s => K (AV.sc (SV.str s)) [])
 | _, _ => none
noncomputable def pa_impl_DeltaOf_wwwwwwwwww__o_impl_ymix (N : Nat) (G_impl_ymix : ∀ {R : Type} (s : ByteArray) (n : Int) (k : Int → Option R), Option R) {R : Type} (args : List AV) (H : Hp E) (K : AV → Hp E → Option R) : Option R :=
 match args, H with
 | [(AV.sc (SV.str s)), (AV.sc (SV.int IntKind.i64 n))], [] => G_impl_ymix s n (fun n6 => K (AV.sc (SV.int IntKind.i64 n6)) [])
 | _, _ => none
noncomputable def pa_impl_DeltaOf_wwwwwwwwww__o_impl_PackMachine_wwwww (N : Nat) (G_impl_PackMachine_wwwww : ∀ {R : Type} (n : Int) (b : Bool) (n1 : Int) (b1 : Bool) (b2 : Bool) (s : ByteArray) (n2 : Int) (n3 : Int) (n4 : Int) (b3 : Bool) (b4 : Bool) (n5 : Int) (l : List Int) (l1 : List Int) (l2 : List Int) (l3 : List PortValue) (l4 : List PortValue) (k : ByteArray → (List Int) → (List Int) → (List Int) → Option R), Option R) {R : Type} (args : List AV) (H : Hp E) (K : AV → Hp E → Option R) : Option R :=
 match args, H with
 | [(AV.agg [(SV.int IntKind.i64 n), (SV.slc 0 none b), (SV.int IntKind.i64 n1), (SV.slc 1 none b1), (SV.slc 2 none b2), (SV.str s), (SV.int IntKind.i64 n2), (SV.int IntKind.i64 n3), (SV.int IntKind.i64 n4), (SV.slc 3 none b3), (SV.slc 4 none b4), (SV.int IntKind.i64 n5)])], [(some (HE.mk false (HB.rows (B.i64 l)))), (some (HE.mk false (HB.rows (B.i64 l1)))), (some (HE.mk false (HB.rows (B.i64 l2)))), (some (HE.mk false (HB.rows (B.iPortValue l3)))), (some (HE.mk false (HB.rows (B.iPortValue l4))))] => G_impl_PackMachine_wwwww n b n1 b1 b2 s n2 n3 n4 b3 b4 n5 l l1 l2 l3 l4 (fun s70 l115 l116 l117 => K (AV.sc (SV.str s70)) [(some (HE.mk false (HB.rows (B.i64 l115)))), (some (HE.mk false (HB.rows (B.i64 l116)))), (some (HE.mk false (HB.rows (B.i64 l117)))), (some (HE.mk false (HB.rows (B.iPortValue l3)))), (some (HE.mk false (HB.rows (B.iPortValue l4))))])
 | _, _ => none
noncomputable def pa_impl_DeltaOf_wwwwwwwwww__o_impl_yframeSet_Fimpl_DeltaOf_1_WWWwwwwwwwwwww (N : Nat) (G_impl_yframeSet_Fimpl_DeltaOf_1_WWWwwwwwwwwwww : ∀ {R : Type} (n : Int) (n1 : Int) (b : Bool) (n2 : Int) (b1 : Bool) (b2 : Bool) (s : ByteArray) (n3 : Int) (n4 : Int) (n5 : Int) (b3 : Bool) (b4 : Bool) (n6 : Int) (n7 : Int) (b5 : Bool) (n8 : Int) (b6 : Bool) (b7 : Bool) (s1 : ByteArray) (n9 : Int) (n10 : Int) (n11 : Int) (b8 : Bool) (b9 : Bool) (n12 : Int) (b10 : Bool) (l : List Int) (l1 : List Int) (l2 : List Int) (l3 : List PortValue) (l4 : List PortValue) (l5 : List Int) (l6 : List Int) (l7 : List Int) (l8 : List PortValue) (l9 : List PortValue) (l10 : List Int) (k : ByteArray → (List Int) → Option R), Option R) {R : Type} (args : List AV) (H : Hp E) (K : AV → Hp E → Option R) : Option R :=
 match args, H with
 | [(AV.sc (SV.int IntKind.i64 n)), (AV.sc (SV.fn 48 [(0, (0, 0)), (1, (0, 0)), (2, (0, 0))]))], [(some (HE.mk false (HB.exp none [(SV.int IntKind.i64 n1), (SV.slc 3 none b), (SV.int IntKind.i64 n2), (SV.slc 4 none b1), (SV.slc 5 none b2), (SV.str s), (SV.int IntKind.i64 n3), (SV.int IntKind.i64 n4), (SV.int IntKind.i64 n5), (SV.slc 6 none b3), (SV.slc 7 none b4), (SV.int IntKind.i64 n6)]))), (some (HE.mk false (HB.exp none [(SV.int IntKind.i64 n7), (SV.slc 8 none b5), (SV.int IntKind.i64 n8), (SV.slc 9 none b6), (SV.slc 10 none b7), (SV.str s1), (SV.int IntKind.i64 n9), (SV.int IntKind.i64 n10), (SV.int IntKind.i64 n11), (SV.slc 11 none b8), (SV.slc 12 none b9), (SV.int IntKind.i64 n12)]))), (some (HE.mk false (HB.exp none [(SV.slc 13 none b10)]))), (some (HE.mk false (HB.rows (B.i64 l)))), (some (HE.mk false (HB.rows (B.i64 l1)))), (some (HE.mk false (HB.rows (B.i64 l2)))), (some (HE.mk false (HB.rows (B.iPortValue l3)))), (some (HE.mk false (HB.rows (B.iPortValue l4)))), (some (HE.mk false (HB.rows (B.i64 l5)))), (some (HE.mk false (HB.rows (B.i64 l6)))), (some (HE.mk false (HB.rows (B.i64 l7)))), (some (HE.mk false (HB.rows (B.iPortValue l8)))), (some (HE.mk false (HB.rows (B.iPortValue l9)))), (some (HE.mk false (HB.rows (B.u8 l10))))] => G_impl_yframeSet_Fimpl_DeltaOf_1_WWWwwwwwwwwwww n n1 b n2 b1 b2 s n3 n4 n5 b3 b4 n6 n7 b5 n8 b6 b7 s1 n9 n10 n11 b8 b9 n12 b10 l l1 l2 l3 l4 l5 l6 l7 l8 l9 l10 (fun s4 l26 => K (AV.sc (SV.str s4)) [(some (HE.mk false (HB.exp none [(SV.int IntKind.i64 n1), (SV.slc 3 none b), (SV.int IntKind.i64 n2), (SV.slc 4 none b1), (SV.slc 5 none b2), (SV.str s), (SV.int IntKind.i64 n3), (SV.int IntKind.i64 n4), (SV.int IntKind.i64 n5), (SV.slc 6 none b3), (SV.slc 7 none b4), (SV.int IntKind.i64 n6)]))), (some (HE.mk false (HB.exp none [(SV.int IntKind.i64 n7), (SV.slc 8 none b5), (SV.int IntKind.i64 n8), (SV.slc 9 none b6), (SV.slc 10 none b7), (SV.str s1), (SV.int IntKind.i64 n9), (SV.int IntKind.i64 n10), (SV.int IntKind.i64 n11), (SV.slc 11 none b8), (SV.slc 12 none b9), (SV.int IntKind.i64 n12)]))), (some (HE.mk false (HB.exp none [(SV.slc 13 none b10)]))), (some (HE.mk false (HB.rows (B.i64 l)))), (some (HE.mk false (HB.rows (B.i64 l1)))), (some (HE.mk false (HB.rows (B.i64 l2)))), (some (HE.mk false (HB.rows (B.iPortValue l3)))), (some (HE.mk false (HB.rows (B.iPortValue l4)))), (some (HE.mk false (HB.rows (B.i64 l5)))), (some (HE.mk false (HB.rows (B.i64 l6)))), (some (HE.mk false (HB.rows (B.i64 l7)))), (some (HE.mk false (HB.rows (B.iPortValue l8)))), (some (HE.mk false (HB.rows (B.iPortValue l9)))), (some (HE.mk false (HB.rows (B.u8 l26))))])
 | _, _ => none
noncomputable def pa_impl_DeltaOf_wwwwwwwwww__o_impl_MachineFault_rrrrr (N : Nat) (G_impl_MachineFault_rrrrr : ∀ {R : Type} (n : Int) (b : Bool) (n1 : Int) (b1 : Bool) (b2 : Bool) (s : ByteArray) (n2 : Int) (n3 : Int) (n4 : Int) (b3 : Bool) (b4 : Bool) (n5 : Int) (l : List Int) (l1 : List Int) (l2 : List Int) (l3 : List PortValue) (l4 : List PortValue) (k : Int → Option R), Option R) {R : Type} (args : List AV) (H : Hp E) (K : AV → Hp E → Option R) : Option R :=
 match args, H with
 | [(AV.agg [(SV.int IntKind.i64 n), (SV.slc 0 none b), (SV.int IntKind.i64 n1), (SV.slc 1 none b1), (SV.slc 2 none b2), (SV.str s), (SV.int IntKind.i64 n2), (SV.int IntKind.i64 n3), (SV.int IntKind.i64 n4), (SV.slc 3 none b3), (SV.slc 4 none b4), (SV.int IntKind.i64 n5)])], [(some (HE.mk true (HB.rows (B.i64 l)))), (some (HE.mk true (HB.rows (B.i64 l1)))), (some (HE.mk true (HB.rows (B.i64 l2)))), (some (HE.mk true (HB.rows (B.iPortValue l3)))), (some (HE.mk true (HB.rows (B.iPortValue l4))))] => G_impl_MachineFault_rrrrr n b n1 b1 b2 s n2 n3 n4 b3 b4 n5 l l1 l2 l3 l4 (fun n6 => K (AV.sc (SV.int IntKind.i64 n6)) [(some (HE.mk true (HB.rows (B.i64 l)))), (some (HE.mk true (HB.rows (B.i64 l1)))), (some (HE.mk true (HB.rows (B.i64 l2)))), (some (HE.mk true (HB.rows (B.iPortValue l3)))), (some (HE.mk true (HB.rows (B.iPortValue l4))))])
 | _, _ => none
noncomputable def OA_impl_DeltaOf_wwwwwwwwww (N : Nat) (G_impl_yjoin_w : ∀ {R : Type} (b : Bool) (l : List ByteArray) (k : ByteArray → Option R), Option R) (G_impl_PutWord : ∀ {R : Type} (n : Int) (k : ByteArray → Option R), Option R) (G_impl_ymix : ∀ {R : Type} (s : ByteArray) (n : Int) (k : Int → Option R), Option R) (G_impl_PackMachine_wwwww : ∀ {R : Type} (n : Int) (b : Bool) (n1 : Int) (b1 : Bool) (b2 : Bool) (s : ByteArray) (n2 : Int) (n3 : Int) (n4 : Int) (b3 : Bool) (b4 : Bool) (n5 : Int) (l : List Int) (l1 : List Int) (l2 : List Int) (l3 : List PortValue) (l4 : List PortValue) (k : ByteArray → (List Int) → (List Int) → (List Int) → Option R), Option R) (G_impl_yframeSet_Fimpl_DeltaOf_1_WWWwwwwwwwwwww : ∀ {R : Type} (n : Int) (n1 : Int) (b : Bool) (n2 : Int) (b1 : Bool) (b2 : Bool) (s : ByteArray) (n3 : Int) (n4 : Int) (n5 : Int) (b3 : Bool) (b4 : Bool) (n6 : Int) (n7 : Int) (b5 : Bool) (n8 : Int) (b6 : Bool) (b7 : Bool) (s1 : ByteArray) (n9 : Int) (n10 : Int) (n11 : Int) (b8 : Bool) (b9 : Bool) (n12 : Int) (b10 : Bool) (l : List Int) (l1 : List Int) (l2 : List Int) (l3 : List PortValue) (l4 : List PortValue) (l5 : List Int) (l6 : List Int) (l7 : List Int) (l8 : List PortValue) (l9 : List PortValue) (l10 : List Int) (k : ByteArray → (List Int) → Option R), Option R) (G_impl_MachineFault_rrrrr : ∀ {R : Type} (n : Int) (b : Bool) (n1 : Int) (b1 : Bool) (b2 : Bool) (s : ByteArray) (n2 : Int) (n3 : Int) (n4 : Int) (b3 : Bool) (b4 : Bool) (n5 : Int) (l : List Int) (l1 : List Int) (l2 : List Int) (l3 : List PortValue) (l4 : List PortValue) (k : Int → Option R), Option R) : Orc E := addFn 49 (pa_impl_DeltaOf_wwwwwwwwww__o_impl_yjoin_w N G_impl_yjoin_w) (addFn 38 (pa_impl_DeltaOf_wwwwwwwwww__o_impl_PutWord N G_impl_PutWord) (addFn 44 (pa_impl_DeltaOf_wwwwwwwwww__o_impl_ymix N G_impl_ymix) (addFn 9 (pa_impl_DeltaOf_wwwwwwwwww__o_impl_PackMachine_wwwww N G_impl_PackMachine_wwwww) (addFn 39 (pa_impl_DeltaOf_wwwwwwwwww__o_impl_yframeSet_Fimpl_DeltaOf_1_WWWwwwwwwwwwww N G_impl_yframeSet_Fimpl_DeltaOf_1_WWWwwwwwwwwwww) (addFn 35 (pa_impl_DeltaOf_wwwwwwwwww__o_impl_MachineFault_rrrrr N G_impl_MachineFault_rrrrr) (noFn))))))
theorem O_impl_DeltaOf_wwwwwwwwww_ok (N : Nat) : OrcOk (O_impl_DeltaOf_wwwwwwwwww N) := addFn_ok (o_impl_yjoin_w_ok N) (addFn_ok (o_impl_PutWord_ok N) (addFn_ok (o_impl_ymix_ok N) (addFn_ok (o_impl_PackMachine_wwwww_ok N) (addFn_ok (o_impl_yframeSet_Fimpl_DeltaOf_1_WWWwwwwwwwwwww_ok N) (addFn_ok (o_impl_MachineFault_rrrrr_ok N) (noFn_ok))))))
noncomputable def g_impl_DeltaOf_wwwwwwwwww (N : Nat) {R : Type} (n : Int) (b : Bool) (n1 : Int) (b1 : Bool) (b2 : Bool) (s : ByteArray) (n2 : Int) (n3 : Int) (n4 : Int) (b3 : Bool) (b4 : Bool) (n5 : Int) (n6 : Int) (b5 : Bool) (n7 : Int) (b6 : Bool) (b7 : Bool) (s1 : ByteArray) (n8 : Int) (n9 : Int) (n10 : Int) (b8 : Bool) (b9 : Bool) (n11 : Int) (l : List Int) (l1 : List Int) (l2 : List Int) (l3 : List PortValue) (l4 : List PortValue) (l5 : List Int) (l6 : List Int) (l7 : List Int) (l8 : List PortValue) (l9 : List PortValue) (k : ByteArray → (List Int) → (List Int) → (List Int) → Option R) : Option R :=
 (oK (g_impl_MachineFault_rrrrr N n b n1 b1 b2 s n2 n3 n4 b3 b4 n5 l l1 l2 l3 l4 fun n12 =>
 (cond (n12 != (0 : Int))
 (some true)
 (g_impl_MachineFault_rrrrr N n6 b5 n7 b6 b7 s1 n8 n9 n10 b8 b9 n11 l5 l6 l7 l8 l9 fun n13 =>
 (cond (n13 != (0 : Int))
 (some true)
 (some ((((ByteArray.size s) : Nat) : Int) != (((ByteArray.size s1) : Nat) : Int))))))) fun j =>
 (cond j
 (k (ByteArray.mk (List.toArray [])) l5 l6 l7)
 (g_impl_yframeSet_Fimpl_DeltaOf_1_WWWwwwwwwwwwww N (IntKind.wrap IntKind.i64 (Int.tdiv (((ByteArray.size s) : Nat) : Int) (256 : Int))) n b n1 b1 b2 s n2 n3 n4 b3 b4 n5 n6 b5 n7 b6 b7 s1 n8 n9 n10 b8 b9 n11 false l l1 l2 l3 l4 l5 l6 l7 l8 l9 (Go.Eng.ofBytes s1) fun s2 l10 =>
 (cond (Nat.ble (0 + (List.length l10)) (List.length l10))
 (g_impl_PackMachine_wwwww N n6 b5 n7 b6 b7 (Go.Eng.toBytes (Go.Eng.seg l10 0 (List.length l10))) n8 n9 n10 b8 b9 n11 l5 l6 l7 l8 l9 fun s3 l11 l12 l13 =>
 (g_impl_ymix N s (62 : Int) fun n14 =>
 (g_impl_PutWord N n14 fun s4 =>
 (g_impl_yjoin_w N false [(ByteArray.mk (List.toArray [(86 : UInt8), (68 : UInt8), (49 : UInt8), (10 : UInt8)])), s4, s2, s3] fun s5 =>
 (oK (cond (decide ((s3 = (ByteArray.mk (List.toArray [])))))
 (some true)
 (some (decide (((((ByteArray.size s5) : Nat) : Int) > (65536 : Int)))))) fun j1 =>
 (cond j1
 (k (ByteArray.mk (List.toArray [])) l11 l12 l13)
 (k s5 l11 l12 l13)))))))
 none))))
noncomputable def ga_g_impl_DeltaOf_wwwwwwwwww (N : Nat) (G_impl_yjoin_w : ∀ {R : Type} (b : Bool) (l : List ByteArray) (k : ByteArray → Option R), Option R) (G_impl_PutWord : ∀ {R : Type} (n : Int) (k : ByteArray → Option R), Option R) (G_impl_ymix : ∀ {R : Type} (s : ByteArray) (n : Int) (k : Int → Option R), Option R) (G_impl_PackMachine_wwwww : ∀ {R : Type} (n : Int) (b : Bool) (n1 : Int) (b1 : Bool) (b2 : Bool) (s : ByteArray) (n2 : Int) (n3 : Int) (n4 : Int) (b3 : Bool) (b4 : Bool) (n5 : Int) (l : List Int) (l1 : List Int) (l2 : List Int) (l3 : List PortValue) (l4 : List PortValue) (k : ByteArray → (List Int) → (List Int) → (List Int) → Option R), Option R) (G_impl_yframeSet_Fimpl_DeltaOf_1_WWWwwwwwwwwwww : ∀ {R : Type} (n : Int) (n1 : Int) (b : Bool) (n2 : Int) (b1 : Bool) (b2 : Bool) (s : ByteArray) (n3 : Int) (n4 : Int) (n5 : Int) (b3 : Bool) (b4 : Bool) (n6 : Int) (n7 : Int) (b5 : Bool) (n8 : Int) (b6 : Bool) (b7 : Bool) (s1 : ByteArray) (n9 : Int) (n10 : Int) (n11 : Int) (b8 : Bool) (b9 : Bool) (n12 : Int) (b10 : Bool) (l : List Int) (l1 : List Int) (l2 : List Int) (l3 : List PortValue) (l4 : List PortValue) (l5 : List Int) (l6 : List Int) (l7 : List Int) (l8 : List PortValue) (l9 : List PortValue) (l10 : List Int) (k : ByteArray → (List Int) → Option R), Option R) (G_impl_MachineFault_rrrrr : ∀ {R : Type} (n : Int) (b : Bool) (n1 : Int) (b1 : Bool) (b2 : Bool) (s : ByteArray) (n2 : Int) (n3 : Int) (n4 : Int) (b3 : Bool) (b4 : Bool) (n5 : Int) (l : List Int) (l1 : List Int) (l2 : List Int) (l3 : List PortValue) (l4 : List PortValue) (k : Int → Option R), Option R) {R : Type} (n : Int) (b : Bool) (n1 : Int) (b1 : Bool) (b2 : Bool) (s : ByteArray) (n2 : Int) (n3 : Int) (n4 : Int) (b3 : Bool) (b4 : Bool) (n5 : Int) (n6 : Int) (b5 : Bool) (n7 : Int) (b6 : Bool) (b7 : Bool) (s1 : ByteArray) (n8 : Int) (n9 : Int) (n10 : Int) (b8 : Bool) (b9 : Bool) (n11 : Int) (l : List Int) (l1 : List Int) (l2 : List Int) (l3 : List PortValue) (l4 : List PortValue) (l5 : List Int) (l6 : List Int) (l7 : List Int) (l8 : List PortValue) (l9 : List PortValue) (k : ByteArray → (List Int) → (List Int) → (List Int) → Option R) : Option R :=
 (oK (G_impl_MachineFault_rrrrr n b n1 b1 b2 s n2 n3 n4 b3 b4 n5 l l1 l2 l3 l4 fun n12 =>
 (cond (n12 != (0 : Int))
 (some true)
 (G_impl_MachineFault_rrrrr n6 b5 n7 b6 b7 s1 n8 n9 n10 b8 b9 n11 l5 l6 l7 l8 l9 fun n13 =>
 (cond (n13 != (0 : Int))
 (some true)
 (some ((((ByteArray.size s) : Nat) : Int) != (((ByteArray.size s1) : Nat) : Int))))))) fun j =>
 (cond j
 (k (ByteArray.mk (List.toArray [])) l5 l6 l7)
 (G_impl_yframeSet_Fimpl_DeltaOf_1_WWWwwwwwwwwwww (IntKind.wrap IntKind.i64 (Int.tdiv (((ByteArray.size s) : Nat) : Int) (256 : Int))) n b n1 b1 b2 s n2 n3 n4 b3 b4 n5 n6 b5 n7 b6 b7 s1 n8 n9 n10 b8 b9 n11 false l l1 l2 l3 l4 l5 l6 l7 l8 l9 (Go.Eng.ofBytes s1) fun s2 l10 =>
 (cond (Nat.ble (0 + (List.length l10)) (List.length l10))
 (G_impl_PackMachine_wwwww n6 b5 n7 b6 b7 (Go.Eng.toBytes (Go.Eng.seg l10 0 (List.length l10))) n8 n9 n10 b8 b9 n11 l5 l6 l7 l8 l9 fun s3 l11 l12 l13 =>
 (G_impl_ymix s (62 : Int) fun n14 =>
 (G_impl_PutWord n14 fun s4 =>
 (G_impl_yjoin_w false [(ByteArray.mk (List.toArray [(86 : UInt8), (68 : UInt8), (49 : UInt8), (10 : UInt8)])), s4, s2, s3] fun s5 =>
 (oK (cond (decide ((s3 = (ByteArray.mk (List.toArray [])))))
 (some true)
 (some (decide (((((ByteArray.size s5) : Nat) : Int) > (65536 : Int)))))) fun j1 =>
 (cond j1
 (k (ByteArray.mk (List.toArray [])) l11 l12 l13)
 (k s5 l11 l12 l13)))))))
 none))))
theorem ea_e_impl_DeltaOf_wwwwwwwwww (N : Nat) (G_impl_yjoin_w : ∀ {R : Type} (b : Bool) (l : List ByteArray) (k : ByteArray → Option R), Option R) (G_impl_PutWord : ∀ {R : Type} (n : Int) (k : ByteArray → Option R), Option R) (G_impl_ymix : ∀ {R : Type} (s : ByteArray) (n : Int) (k : Int → Option R), Option R) (G_impl_PackMachine_wwwww : ∀ {R : Type} (n : Int) (b : Bool) (n1 : Int) (b1 : Bool) (b2 : Bool) (s : ByteArray) (n2 : Int) (n3 : Int) (n4 : Int) (b3 : Bool) (b4 : Bool) (n5 : Int) (l : List Int) (l1 : List Int) (l2 : List Int) (l3 : List PortValue) (l4 : List PortValue) (k : ByteArray → (List Int) → (List Int) → (List Int) → Option R), Option R) (G_impl_yframeSet_Fimpl_DeltaOf_1_WWWwwwwwwwwwww : ∀ {R : Type} (n : Int) (n1 : Int) (b : Bool) (n2 : Int) (b1 : Bool) (b2 : Bool) (s : ByteArray) (n3 : Int) (n4 : Int) (n5 : Int) (b3 : Bool) (b4 : Bool) (n6 : Int) (n7 : Int) (b5 : Bool) (n8 : Int) (b6 : Bool) (b7 : Bool) (s1 : ByteArray) (n9 : Int) (n10 : Int) (n11 : Int) (b8 : Bool) (b9 : Bool) (n12 : Int) (b10 : Bool) (l : List Int) (l1 : List Int) (l2 : List Int) (l3 : List PortValue) (l4 : List PortValue) (l5 : List Int) (l6 : List Int) (l7 : List Int) (l8 : List PortValue) (l9 : List PortValue) (l10 : List Int) (k : ByteArray → (List Int) → Option R), Option R) (G_impl_MachineFault_rrrrr : ∀ {R : Type} (n : Int) (b : Bool) (n1 : Int) (b1 : Bool) (b2 : Bool) (s : ByteArray) (n2 : Int) (n3 : Int) (n4 : Int) (b3 : Bool) (b4 : Bool) (n5 : Int) (l : List Int) (l1 : List Int) (l2 : List Int) (l3 : List PortValue) (l4 : List PortValue) (k : Int → Option R), Option R) {R : Type} (n : Int) (b : Bool) (n1 : Int) (b1 : Bool) (b2 : Bool) (s : ByteArray) (n2 : Int) (n3 : Int) (n4 : Int) (b3 : Bool) (b4 : Bool) (n5 : Int) (n6 : Int) (b5 : Bool) (n7 : Int) (b6 : Bool) (b7 : Bool) (s1 : ByteArray) (n8 : Int) (n9 : Int) (n10 : Int) (b8 : Bool) (b9 : Bool) (n11 : Int) (l : List Int) (l1 : List Int) (l2 : List Int) (l3 : List PortValue) (l4 : List PortValue) (l5 : List Int) (l6 : List Int) (l7 : List Int) (l8 : List PortValue) (l9 : List PortValue) (K : AV → Hp E → Option R) :
    runFnI (E := E) (OA_impl_DeltaOf_wwwwwwwwww N G_impl_yjoin_w G_impl_PutWord G_impl_ymix G_impl_PackMachine_wwwww G_impl_yframeSet_Fimpl_DeltaOf_1_WWWwwwwwwwwwww G_impl_MachineFault_rrrrr) (noIt) sl_impl_DeltaOf_wwwwwwwwww J_impl_DeltaOf_wwwwwwwwww Try.f12 [(AV.agg [(SV.int IntKind.i64 n), (SV.slc 0 none b), (SV.int IntKind.i64 n1), (SV.slc 1 none b1), (SV.slc 2 none b2), (SV.str s), (SV.int IntKind.i64 n2), (SV.int IntKind.i64 n3), (SV.int IntKind.i64 n4), (SV.slc 3 none b3), (SV.slc 4 none b4), (SV.int IntKind.i64 n5)]), (AV.agg [(SV.int IntKind.i64 n6), (SV.slc 5 none b5), (SV.int IntKind.i64 n7), (SV.slc 6 none b6), (SV.slc 7 none b7), (SV.str s1), (SV.int IntKind.i64 n8), (SV.int IntKind.i64 n9), (SV.int IntKind.i64 n10), (SV.slc 8 none b8), (SV.slc 9 none b9), (SV.int IntKind.i64 n11)])] [(some (HE.mk false (HB.rows (B.i64 l)))), (some (HE.mk false (HB.rows (B.i64 l1)))), (some (HE.mk false (HB.rows (B.i64 l2)))), (some (HE.mk false (HB.rows (B.iPortValue l3)))), (some (HE.mk false (HB.rows (B.iPortValue l4)))), (some (HE.mk false (HB.rows (B.i64 l5)))), (some (HE.mk false (HB.rows (B.i64 l6)))), (some (HE.mk false (HB.rows (B.i64 l7)))), (some (HE.mk false (HB.rows (B.iPortValue l8)))), (some (HE.mk false (HB.rows (B.iPortValue l9))))] K =
      ga_g_impl_DeltaOf_wwwwwwwwww N G_impl_yjoin_w G_impl_PutWord G_impl_ymix G_impl_PackMachine_wwwww G_impl_yframeSet_Fimpl_DeltaOf_1_WWWwwwwwwwwwww G_impl_MachineFault_rrrrr n b n1 b1 b2 s n2 n3 n4 b3 b4 n5 n6 b5 n7 b6 b7 s1 n8 n9 n10 b8 b9 n11 l l1 l2 l3 l4 l5 l6 l7 l8 l9 (fun s6 l14 l15 l16 => K (AV.sc (SV.str s6)) [(some (HE.mk false (HB.rows (B.i64 l)))), (some (HE.mk false (HB.rows (B.i64 l1)))), (some (HE.mk false (HB.rows (B.i64 l2)))), (some (HE.mk false (HB.rows (B.iPortValue l3)))), (some (HE.mk false (HB.rows (B.iPortValue l4)))), (some (HE.mk false (HB.rows (B.i64 l14)))), (some (HE.mk false (HB.rows (B.i64 l15)))), (some (HE.mk false (HB.rows (B.i64 l16)))), (some (HE.mk false (HB.rows (B.iPortValue l8)))), (some (HE.mk false (HB.rows (B.iPortValue l9))))]) := by kernel_rfl
theorem e_impl_DeltaOf_wwwwwwwwww (N : Nat) {R : Type} (n : Int) (b : Bool) (n1 : Int) (b1 : Bool) (b2 : Bool) (s : ByteArray) (n2 : Int) (n3 : Int) (n4 : Int) (b3 : Bool) (b4 : Bool) (n5 : Int) (n6 : Int) (b5 : Bool) (n7 : Int) (b6 : Bool) (b7 : Bool) (s1 : ByteArray) (n8 : Int) (n9 : Int) (n10 : Int) (b8 : Bool) (b9 : Bool) (n11 : Int) (l : List Int) (l1 : List Int) (l2 : List Int) (l3 : List PortValue) (l4 : List PortValue) (l5 : List Int) (l6 : List Int) (l7 : List Int) (l8 : List PortValue) (l9 : List PortValue) (K : AV → Hp E → Option R) :
    runFnI (E := E) (O_impl_DeltaOf_wwwwwwwwww N) (noIt) sl_impl_DeltaOf_wwwwwwwwww J_impl_DeltaOf_wwwwwwwwww Try.f12 [(AV.agg [(SV.int IntKind.i64 n), (SV.slc 0 none b), (SV.int IntKind.i64 n1), (SV.slc 1 none b1), (SV.slc 2 none b2), (SV.str s), (SV.int IntKind.i64 n2), (SV.int IntKind.i64 n3), (SV.int IntKind.i64 n4), (SV.slc 3 none b3), (SV.slc 4 none b4), (SV.int IntKind.i64 n5)]), (AV.agg [(SV.int IntKind.i64 n6), (SV.slc 5 none b5), (SV.int IntKind.i64 n7), (SV.slc 6 none b6), (SV.slc 7 none b7), (SV.str s1), (SV.int IntKind.i64 n8), (SV.int IntKind.i64 n9), (SV.int IntKind.i64 n10), (SV.slc 8 none b8), (SV.slc 9 none b9), (SV.int IntKind.i64 n11)])] [(some (HE.mk false (HB.rows (B.i64 l)))), (some (HE.mk false (HB.rows (B.i64 l1)))), (some (HE.mk false (HB.rows (B.i64 l2)))), (some (HE.mk false (HB.rows (B.iPortValue l3)))), (some (HE.mk false (HB.rows (B.iPortValue l4)))), (some (HE.mk false (HB.rows (B.i64 l5)))), (some (HE.mk false (HB.rows (B.i64 l6)))), (some (HE.mk false (HB.rows (B.i64 l7)))), (some (HE.mk false (HB.rows (B.iPortValue l8)))), (some (HE.mk false (HB.rows (B.iPortValue l9))))] K =
      g_impl_DeltaOf_wwwwwwwwww N n b n1 b1 b2 s n2 n3 n4 b3 b4 n5 n6 b5 n7 b6 b7 s1 n8 n9 n10 b8 b9 n11 l l1 l2 l3 l4 l5 l6 l7 l8 l9 (fun s6 l14 l15 l16 => K (AV.sc (SV.str s6)) [(some (HE.mk false (HB.rows (B.i64 l)))), (some (HE.mk false (HB.rows (B.i64 l1)))), (some (HE.mk false (HB.rows (B.i64 l2)))), (some (HE.mk false (HB.rows (B.iPortValue l3)))), (some (HE.mk false (HB.rows (B.iPortValue l4)))), (some (HE.mk false (HB.rows (B.i64 l14)))), (some (HE.mk false (HB.rows (B.i64 l15)))), (some (HE.mk false (HB.rows (B.i64 l16)))), (some (HE.mk false (HB.rows (B.iPortValue l8)))), (some (HE.mk false (HB.rows (B.iPortValue l9))))]) := castPr (by kernel_rfl) (ea_e_impl_DeltaOf_wwwwwwwwww N (g_impl_yjoin_w N) (g_impl_PutWord N) (g_impl_ymix N) (g_impl_PackMachine_wwwww N) (g_impl_yframeSet_Fimpl_DeltaOf_1_WWWwwwwwwwwwww N) (g_impl_MachineFault_rrrrr N) n b n1 b1 b2 s n2 n3 n4 b3 b4 n5 n6 b5 n7 b6 b7 s1 n8 n9 n10 b8 b9 n11 l l1 l2 l3 l4 l5 l6 l7 l8 l9 K)
noncomputable def o_impl_DeltaOf_wwwwwwwwww (N : Nat) {R : Type} (args : List AV) (H : Hp E) (K : AV → Hp E → Option R) : Option R :=
 match args, H with
 | [(AV.agg [(SV.int IntKind.i64 n), (SV.slc 0 none b), (SV.int IntKind.i64 n1), (SV.slc 1 none b1), (SV.slc 2 none b2), (SV.str s), (SV.int IntKind.i64 n2), (SV.int IntKind.i64 n3), (SV.int IntKind.i64 n4), (SV.slc 3 none b3), (SV.slc 4 none b4), (SV.int IntKind.i64 n5)]), (AV.agg [(SV.int IntKind.i64 n6), (SV.slc 5 none b5), (SV.int IntKind.i64 n7), (SV.slc 6 none b6), (SV.slc 7 none b7), (SV.str s1), (SV.int IntKind.i64 n8), (SV.int IntKind.i64 n9), (SV.int IntKind.i64 n10), (SV.slc 8 none b8), (SV.slc 9 none b9), (SV.int IntKind.i64 n11)])], [(some (HE.mk false (HB.rows (B.i64 l)))), (some (HE.mk false (HB.rows (B.i64 l1)))), (some (HE.mk false (HB.rows (B.i64 l2)))), (some (HE.mk false (HB.rows (B.iPortValue l3)))), (some (HE.mk false (HB.rows (B.iPortValue l4)))), (some (HE.mk false (HB.rows (B.i64 l5)))), (some (HE.mk false (HB.rows (B.i64 l6)))), (some (HE.mk false (HB.rows (B.i64 l7)))), (some (HE.mk false (HB.rows (B.iPortValue l8)))), (some (HE.mk false (HB.rows (B.iPortValue l9))))] => g_impl_DeltaOf_wwwwwwwwww N n b n1 b1 b2 s n2 n3 n4 b3 b4 n5 n6 b5 n7 b6 b7 s1 n8 n9 n10 b8 b9 n11 l l1 l2 l3 l4 l5 l6 l7 l8 l9 (fun s6 l14 l15 l16 => K (AV.sc (SV.str s6)) [(some (HE.mk false (HB.rows (B.i64 l)))), (some (HE.mk false (HB.rows (B.i64 l1)))), (some (HE.mk false (HB.rows (B.i64 l2)))), (some (HE.mk false (HB.rows (B.iPortValue l3)))), (some (HE.mk false (HB.rows (B.iPortValue l4)))), (some (HE.mk false (HB.rows (B.i64 l14)))), (some (HE.mk false (HB.rows (B.i64 l15)))), (some (HE.mk false (HB.rows (B.i64 l16)))), (some (HE.mk false (HB.rows (B.iPortValue l8)))), (some (HE.mk false (HB.rows (B.iPortValue l9))))])
 | _, _ => none
theorem o_impl_DeltaOf_wwwwwwwwww_ok (N : Nat) : FnOk E 12 (o_impl_DeltaOf_wwwwwwwwww N) := by
  intro R args H K r h
  unfold o_impl_DeltaOf_wwwwwwwwww at h
  dsimp only at h
  split at h
  · exact fnB_ok (ids := []) (top := []) ok (O_impl_DeltaOf_wwwwwwwwww_ok N) (jn_ok _ _ _) Try.func12 (by kernel_rfl) (IT := noIt) (sl := sl_impl_DeltaOf_wwwwwwwwww) (J := J_impl_DeltaOf_wwwwwwwwww) (K := K) (H := [(some (HE.mk false (HB.rows (B.i64 _)))), (some (HE.mk false (HB.rows (B.i64 _)))), (some (HE.mk false (HB.rows (B.i64 _)))), (some (HE.mk false (HB.rows (B.iPortValue _)))), (some (HE.mk false (HB.rows (B.iPortValue _)))), (some (HE.mk false (HB.rows (B.i64 _)))), (some (HE.mk false (HB.rows (B.i64 _)))), (some (HE.mk false (HB.rows (B.i64 _)))), (some (HE.mk false (HB.rows (B.iPortValue _)))), (some (HE.mk false (HB.rows (B.iPortValue _))))]) (noIt_ok) (by kernel_rfl) rfl ((e_impl_DeltaOf_wwwwwwwwww N _ _ _ _ _ _ _ _ _ _ _ _ _ _ _ _ _ _ _ _ _ _ _ _ _ _ _ _ _ _ _ _ _ _ K).trans h)
  · cases h
/-! ### loop.example/g00038/laws.eqInt64S -/
abbrev sl_laws_eqInt64S_rr : SlotT := [(0, ([0, 1, 5], [4]))]
abbrev J_laws_eqInt64S_rr : JT := jn [] [] []
noncomputable def O_laws_eqInt64S_rr (N : Nat) : Orc E := noFn
theorem O_laws_eqInt64S_rr_ok (N : Nat) : OrcOk (O_laws_eqInt64S_rr N) := noFn_ok
noncomputable def s_laws_eqInt64S_rr_0 (N : Nat) {R : Type} (b2 : Bool) (b3 : Bool) (l2 : List Int) (l3 : List Int) (n : Int) (ag : Int → Option R)  (kR : Option R) (kN : Option R) : Option R :=
 (cond (decide ((n < (((List.length l2) : Nat) : Int))))
 (cond ((decide (((0 : Int) ≤ n))) && (decide ((n < (((List.length l2) : Nat) : Int)))))
 (elemK l2 (Int.toNat n) fun x =>
 (cond ((decide (((0 : Int) ≤ n))) && (decide ((n < (((List.length l3) : Nat) : Int)))))
 (elemK l3 (Int.toNat n) fun x1 =>
 (cond (x != x1)
 kR
 (ag (IntKind.wrap IntKind.i64 (n + (1 : Int))))))
 none))
 none)
 kN)
noncomputable def l_laws_eqInt64S_rr_0 (N : Nat) {R : Type} (b2 : Bool) (b3 : Bool) (l2 : List Int) (l3 : List Int) (kR : Option R) (kN : Option R) : Nat → Int → Option R
 | 0, _ => none
 | f + 1, n => s_laws_eqInt64S_rr_0 N b2 b3 l2 l3 n (fun n => l_laws_eqInt64S_rr_0 N b2 b3 l2 l3 kR kN f n)  kR kN
noncomputable def c_laws_eqInt64S_rr_0 (N : Nat) {R : Type} (b2 : Bool) (b3 : Bool) (l2 : List Int) (l3 : List Int) (n : Int) (kR : Option R) (kN : Option R) : Option R := l_laws_eqInt64S_rr_0 N b2 b3 l2 l3 kR kN N n
theorem se_laws_eqInt64S_rr_0 (N : Nat) {R : Type} (b2 : Bool) (b3 : Bool) (l2 : List Int) (l3 : List Int) (n : Int) (AG : List (Option AV) → Hp E → Option R) (KL : Ex → List (Option AV) → Hp E → Option R) :
    iterStep (E := E) (O_laws_eqInt64S_rr N) (fun {R} => LI (noIt) 2 26 sl_laws_eqInt64S_rr (R := R)) J_laws_eqInt64S_rr 2 26 0 [0, 1, 5] [4] (body Try.f45 0) AG KL [(some (AV.sc (SV.slc 0 none b2))), (some (AV.sc (SV.slc 1 none b3))), (some (AV.sc (SV.int IntKind.i64 n)))] [(some (HE.mk true (HB.rows (B.i64 l2)))), (some (HE.mk true (HB.rows (B.i64 l3))))] =
      s_laws_eqInt64S_rr_0 N b2 b3 l2 l3 n (fun n => AG [(some (AV.sc (SV.slc 0 none b2))), (some (AV.sc (SV.slc 1 none b3))), (some (AV.sc (SV.int IntKind.i64 n)))] [(some (HE.mk true (HB.rows (B.i64 l2)))), (some (HE.mk true (HB.rows (B.i64 l3))))])  (KL Ex.ret [(some (AV.sc (SV.bool false)))] [(some (HE.mk true (HB.rows (B.i64 l2)))), (some (HE.mk true (HB.rows (B.i64 l3))))]) (KL Ex.normal [none] [(some (HE.mk true (HB.rows (B.i64 l2)))), (some (HE.mk true (HB.rows (B.i64 l3))))]) := by kernel_rfl
theorem le_laws_eqInt64S_rr_0 (N : Nat) {R : Type} (b2 : Bool) (b3 : Bool) (l2 : List Int) (l3 : List Int) (KL : Ex → List (Option AV) → Hp E → Option R) : ∀ (f : Nat), ∀ (n : Int), iterK (E := E) (O_laws_eqInt64S_rr N) (fun {R} => LI (noIt) 2 26 sl_laws_eqInt64S_rr (R := R)) J_laws_eqInt64S_rr 2 26 0 [0, 1, 5] [4] (body Try.f45 0) f [(some (AV.sc (SV.slc 0 none b2))), (some (AV.sc (SV.slc 1 none b3))), (some (AV.sc (SV.int IntKind.i64 n)))] [(some (HE.mk true (HB.rows (B.i64 l2)))), (some (HE.mk true (HB.rows (B.i64 l3))))] KL = l_laws_eqInt64S_rr_0 N b2 b3 l2 l3 (KL Ex.ret [(some (AV.sc (SV.bool false)))] [(some (HE.mk true (HB.rows (B.i64 l2)))), (some (HE.mk true (HB.rows (B.i64 l3))))]) (KL Ex.normal [none] [(some (HE.mk true (HB.rows (B.i64 l2)))), (some (HE.mk true (HB.rows (B.i64 l3))))]) f n := by
  intro f
  induction f with
  | zero => intros; rfl
  | succ f ih =>
    intro n
    rw [iterK_succ, se_laws_eqInt64S_rr_0]
    exact (congrArg (fun z0 => s_laws_eqInt64S_rr_0 N b2 b3 l2 l3 n z0 (KL Ex.ret [(some (AV.sc (SV.bool false)))] [(some (HE.mk true (HB.rows (B.i64 l2)))), (some (HE.mk true (HB.rows (B.i64 l3))))]) (KL Ex.normal [none] [(some (HE.mk true (HB.rows (B.i64 l2)))), (some (HE.mk true (HB.rows (B.i64 l3))))])) (funext fun n => ih n))
noncomputable def i_laws_eqInt64S_rr_0 (N : Nat) {R : Type} (vs : List (Option AV)) (H : Hp E) (KL : Ex → List (Option AV) → Hp E → Option R) : Option R :=
 match vs, H with
 | [(some (AV.sc (SV.slc 0 none b2))), (some (AV.sc (SV.slc 1 none b3))), (some (AV.sc (SV.int IntKind.i64 n)))], [(some (HE.mk true (HB.rows (B.i64 l2)))), (some (HE.mk true (HB.rows (B.i64 l3))))] => c_laws_eqInt64S_rr_0 N b2 b3 l2 l3 n (KL Ex.ret [(some (AV.sc (SV.bool false)))] [(some (HE.mk true (HB.rows (B.i64 l2)))), (some (HE.mk true (HB.rows (B.i64 l3))))]) (KL Ex.normal [none] [(some (HE.mk true (HB.rows (B.i64 l2)))), (some (HE.mk true (HB.rows (B.i64 l3))))])
 | _, _ => none
noncomputable def IT_laws_eqInt64S_rr_0 (N : Nat) : Its E := addIt 0 (i_laws_eqInt64S_rr_0 N) (noIt)
theorem IT_laws_eqInt64S_rr_0_ok (N : Nat) : ItOk (IT_laws_eqInt64S_rr_0 N) 2 26 sl_laws_eqInt64S_rr (lsB Try.f45 [0]) :=
  addItB_ok (inner := []) ok (O_laws_eqInt64S_rr_ok N) (jn_ok _ _ _) (noIt_ok) rfl (by kernel_rfl) rfl fun vs H KL r h => by
    unfold i_laws_eqInt64S_rr_0 at h
    split at h
    · exact ⟨_, (le_laws_eqInt64S_rr_0 N _ _ _ _ KL N _).trans h⟩
    · cases h
noncomputable def g_laws_eqInt64S_rr (N : Nat) {R : Type} (b : Bool) (b1 : Bool) (l : List Int) (l1 : List Int) (k : Bool → Option R) : Option R :=
 (cond ((((List.length l) : Nat) : Int) != (((List.length l1) : Nat) : Int))
 (k false)
 (c_laws_eqInt64S_rr_0 N b b1 l l1 (0 : Int) (
 (k false)) (
 (k true))))
theorem e_laws_eqInt64S_rr (N : Nat) {R : Type} (b : Bool) (b1 : Bool) (l : List Int) (l1 : List Int) (K : AV → Hp E → Option R) :
    runFnI (E := E) (O_laws_eqInt64S_rr N) (IT_laws_eqInt64S_rr_0 N) sl_laws_eqInt64S_rr J_laws_eqInt64S_rr Try.f45 [(AV.sc (SV.slc 0 none b)), (AV.sc (SV.slc 1 none b1))] [(some (HE.mk true (HB.rows (B.i64 l)))), (some (HE.mk true (HB.rows (B.i64 l1))))] K =
      g_laws_eqInt64S_rr N b b1 l l1 (fun b4 => K (AV.sc (SV.bool b4)) [(some (HE.mk true (HB.rows (B.i64 l)))), (some (HE.mk true (HB.rows (B.i64 l1))))]) := by kernel_rfl
noncomputable def o_laws_eqInt64S_rr (N : Nat) {R : Type} (args : List AV) (H : Hp E) (K : AV → Hp E → Option R) : Option R :=
 match args, H with
 | [(AV.sc (SV.slc 0 none b)), (AV.sc (SV.slc 1 none b1))], [(some (HE.mk true (HB.rows (B.i64 l)))), (some (HE.mk true (HB.rows (B.i64 l1))))] => g_laws_eqInt64S_rr N b b1 l l1 (fun b4 => K (AV.sc (SV.bool b4)) [(some (HE.mk true (HB.rows (B.i64 l)))), (some (HE.mk true (HB.rows (B.i64 l1))))])
 | _, _ => none
theorem o_laws_eqInt64S_rr_ok (N : Nat) : FnOk E 45 (o_laws_eqInt64S_rr N) := by
  intro R args H K r h
  unfold o_laws_eqInt64S_rr at h
  dsimp only at h
  split at h
  · exact fnB_ok (ids := [0]) (top := [0]) ok (O_laws_eqInt64S_rr_ok N) (jn_ok _ _ _) Try.func45 (by kernel_rfl) (IT := IT_laws_eqInt64S_rr_0 N) (sl := sl_laws_eqInt64S_rr) (J := J_laws_eqInt64S_rr) (K := K) (H := [(some (HE.mk true (HB.rows (B.i64 _)))), (some (HE.mk true (HB.rows (B.i64 _))))]) (IT_laws_eqInt64S_rr_0_ok N) (by kernel_rfl) rfl ((e_laws_eqInt64S_rr N _ _ _ _ K).trans h)
  · cases h
/-! ### loop.example/g00038/laws.eqPortValue -/
abbrev sl_laws_eqPortValue : SlotT := []
abbrev J_laws_eqPortValue : JT := jn [] [] []
noncomputable def O_laws_eqPortValue (N : Nat) : Orc E := noFn
theorem O_laws_eqPortValue_ok (N : Nat) : OrcOk (O_laws_eqPortValue N) := noFn_ok
noncomputable def g_laws_eqPortValue (N : Nat) {R : Type} (n : Int) (n1 : Int) (n2 : Int) (n3 : Int) (k : Bool → Option R) : Option R :=
 (cond (n != n2)
 (k false)
 (cond (n1 != n3)
 (k false)
 (k true)))
theorem e_laws_eqPortValue (N : Nat) {R : Type} (n : Int) (n1 : Int) (n2 : Int) (n3 : Int) (K : AV → Hp E → Option R) :
    runFnI (E := E) (O_laws_eqPortValue N) (noIt) sl_laws_eqPortValue J_laws_eqPortValue Try.f82 [(AV.agg [(SV.int IntKind.i64 n), (SV.int IntKind.i64 n1)]), (AV.agg [(SV.int IntKind.i64 n2), (SV.int IntKind.i64 n3)])] [] K =
      g_laws_eqPortValue N n n1 n2 n3 (fun b => K (AV.sc (SV.bool b)) []) := by kernel_rfl
noncomputable def o_laws_eqPortValue (N : Nat) {R : Type} (args : List AV) (H : Hp E) (K : AV → Hp E → Option R) : Option R :=
 match args, H with
 | [(AV.agg [(SV.int IntKind.i64 n), (SV.int IntKind.i64 n1)]), (AV.agg [(SV.int IntKind.i64 n2), (SV.int IntKind.i64 n3)])], [] => g_laws_eqPortValue N n n1 n2 n3 (fun b => K (AV.sc (SV.bool b)) [])
 | _, _ => none
theorem o_laws_eqPortValue_ok (N : Nat) : FnOk E 82 (o_laws_eqPortValue N) := by
  intro R args H K r h
  unfold o_laws_eqPortValue at h
  dsimp only at h
  split at h
  · exact fnB_ok (ids := []) (top := []) ok (O_laws_eqPortValue_ok N) (jn_ok _ _ _) Try.func82 (by kernel_rfl) (IT := noIt) (sl := sl_laws_eqPortValue) (J := J_laws_eqPortValue) (K := K) (H := []) (noIt_ok) (by kernel_rfl) rfl ((e_laws_eqPortValue N _ _ _ _ K).trans h)
  · cases h
/-! ### loop.example/g00038/laws.eqPortValueS -/
abbrev sl_laws_eqPortValueS_rr : SlotT := [(0, ([0, 1, 5], [4]))]
abbrev J_laws_eqPortValueS_rr : JT := jn [] [] []
noncomputable def O_laws_eqPortValueS_rr (N : Nat) : Orc E := addFn 82 (o_laws_eqPortValue N) (noFn)
theorem O_laws_eqPortValueS_rr_ok (N : Nat) : OrcOk (O_laws_eqPortValueS_rr N) := addFn_ok (o_laws_eqPortValue_ok N) (noFn_ok)
noncomputable def s_laws_eqPortValueS_rr_0 (N : Nat) {R : Type} (b2 : Bool) (b3 : Bool) (l2 : List PortValue) (l3 : List PortValue) (n : Int) (ag : Int → Option R)  (kR : Option R) (kN : Option R) : Option R :=
 (cond (decide ((n < (((List.length l2) : Nat) : Int))))
 (cond ((decide (((0 : Int) ≤ n))) && (decide ((n < (((List.length l2) : Nat) : Int)))))
 (elemK l2 (Int.toNat n) fun x =>
 (cond ((decide (((0 : Int) ≤ n))) && (decide ((n < (((List.length l3) : Nat) : Int)))))
 (elemK l3 (Int.toNat n) fun x1 =>
 (g_laws_eqPortValue N (PortValue.fPort x) (PortValue.fValue x) (PortValue.fPort x1) (PortValue.fValue x1) fun b4 =>
 (cond (!b4)
 kR
 (ag (IntKind.wrap IntKind.i64 (n + (1 : Int)))))))
 none))
 none)
 kN)
noncomputable def l_laws_eqPortValueS_rr_0 (N : Nat) {R : Type} (b2 : Bool) (b3 : Bool) (l2 : List PortValue) (l3 : List PortValue) (kR : Option R) (kN : Option R) : Nat → Int → Option R
 | 0, _ => none
 | f + 1, n => s_laws_eqPortValueS_rr_0 N b2 b3 l2 l3 n (fun n => l_laws_eqPortValueS_rr_0 N b2 b3 l2 l3 kR kN f n)  kR kN
noncomputable def c_laws_eqPortValueS_rr_0 (N : Nat) {R : Type} (b2 : Bool) (b3 : Bool) (l2 : List PortValue) (l3 : List PortValue) (n : Int) (kR : Option R) (kN : Option R) : Option R := l_laws_eqPortValueS_rr_0 N b2 b3 l2 l3 kR kN N n
theorem se_laws_eqPortValueS_rr_0 (N : Nat) {R : Type} (b2 : Bool) (b3 : Bool) (l2 : List PortValue) (l3 : List PortValue) (n : Int) (AG : List (Option AV) → Hp E → Option R) (KL : Ex → List (Option AV) → Hp E → Option R) :
    iterStep (E := E) (O_laws_eqPortValueS_rr N) (fun {R} => LI (noIt) 2 27 sl_laws_eqPortValueS_rr (R := R)) J_laws_eqPortValueS_rr 2 27 0 [0, 1, 5] [4] (body Try.f46 0) AG KL [(some (AV.sc (SV.slc 0 none b2))), (some (AV.sc (SV.slc 1 none b3))), (some (AV.sc (SV.int IntKind.i64 n)))] [(some (HE.mk true (HB.rows (B.iPortValue l2)))), (some (HE.mk true (HB.rows (B.iPortValue l3))))] =
      s_laws_eqPortValueS_rr_0 N b2 b3 l2 l3 n (fun n => AG [(some (AV.sc (SV.slc 0 none b2))), (some (AV.sc (SV.slc 1 none b3))), (some (AV.sc (SV.int IntKind.i64 n)))] [(some (HE.mk true (HB.rows (B.iPortValue l2)))), (some (HE.mk true (HB.rows (B.iPortValue l3))))])  (KL Ex.ret [(some (AV.sc (SV.bool false)))] [(some (HE.mk true (HB.rows (B.iPortValue l2)))), (some (HE.mk true (HB.rows (B.iPortValue l3))))]) (KL Ex.normal [none] [(some (HE.mk true (HB.rows (B.iPortValue l2)))), (some (HE.mk true (HB.rows (B.iPortValue l3))))]) := by kernel_rfl
theorem le_laws_eqPortValueS_rr_0 (N : Nat) {R : Type} (b2 : Bool) (b3 : Bool) (l2 : List PortValue) (l3 : List PortValue) (KL : Ex → List (Option AV) → Hp E → Option R) : ∀ (f : Nat), ∀ (n : Int), iterK (E := E) (O_laws_eqPortValueS_rr N) (fun {R} => LI (noIt) 2 27 sl_laws_eqPortValueS_rr (R := R)) J_laws_eqPortValueS_rr 2 27 0 [0, 1, 5] [4] (body Try.f46 0) f [(some (AV.sc (SV.slc 0 none b2))), (some (AV.sc (SV.slc 1 none b3))), (some (AV.sc (SV.int IntKind.i64 n)))] [(some (HE.mk true (HB.rows (B.iPortValue l2)))), (some (HE.mk true (HB.rows (B.iPortValue l3))))] KL = l_laws_eqPortValueS_rr_0 N b2 b3 l2 l3 (KL Ex.ret [(some (AV.sc (SV.bool false)))] [(some (HE.mk true (HB.rows (B.iPortValue l2)))), (some (HE.mk true (HB.rows (B.iPortValue l3))))]) (KL Ex.normal [none] [(some (HE.mk true (HB.rows (B.iPortValue l2)))), (some (HE.mk true (HB.rows (B.iPortValue l3))))]) f n := by
  intro f
  induction f with
  | zero => intros; rfl
  | succ f ih =>
    intro n
    rw [iterK_succ, se_laws_eqPortValueS_rr_0]
    exact (congrArg (fun z0 => s_laws_eqPortValueS_rr_0 N b2 b3 l2 l3 n z0 (KL Ex.ret [(some (AV.sc (SV.bool false)))] [(some (HE.mk true (HB.rows (B.iPortValue l2)))), (some (HE.mk true (HB.rows (B.iPortValue l3))))]) (KL Ex.normal [none] [(some (HE.mk true (HB.rows (B.iPortValue l2)))), (some (HE.mk true (HB.rows (B.iPortValue l3))))])) (funext fun n => ih n))
noncomputable def i_laws_eqPortValueS_rr_0 (N : Nat) {R : Type} (vs : List (Option AV)) (H : Hp E) (KL : Ex → List (Option AV) → Hp E → Option R) : Option R :=
 match vs, H with
 | [(some (AV.sc (SV.slc 0 none b2))), (some (AV.sc (SV.slc 1 none b3))), (some (AV.sc (SV.int IntKind.i64 n)))], [(some (HE.mk true (HB.rows (B.iPortValue l2)))), (some (HE.mk true (HB.rows (B.iPortValue l3))))] => c_laws_eqPortValueS_rr_0 N b2 b3 l2 l3 n (KL Ex.ret [(some (AV.sc (SV.bool false)))] [(some (HE.mk true (HB.rows (B.iPortValue l2)))), (some (HE.mk true (HB.rows (B.iPortValue l3))))]) (KL Ex.normal [none] [(some (HE.mk true (HB.rows (B.iPortValue l2)))), (some (HE.mk true (HB.rows (B.iPortValue l3))))])
 | _, _ => none
noncomputable def IT_laws_eqPortValueS_rr_0 (N : Nat) : Its E := addIt 0 (i_laws_eqPortValueS_rr_0 N) (noIt)
theorem IT_laws_eqPortValueS_rr_0_ok (N : Nat) : ItOk (IT_laws_eqPortValueS_rr_0 N) 2 27 sl_laws_eqPortValueS_rr (lsB Try.f46 [0]) :=
  addItB_ok (inner := []) ok (O_laws_eqPortValueS_rr_ok N) (jn_ok _ _ _) (noIt_ok) rfl (by kernel_rfl) rfl fun vs H KL r h => by
    unfold i_laws_eqPortValueS_rr_0 at h
    split at h
    · exact ⟨_, (le_laws_eqPortValueS_rr_0 N _ _ _ _ KL N _).trans h⟩
    · cases h
noncomputable def g_laws_eqPortValueS_rr (N : Nat) {R : Type} (b : Bool) (b1 : Bool) (l : List PortValue) (l1 : List PortValue) (k : Bool → Option R) : Option R :=
 (cond ((((List.length l) : Nat) : Int) != (((List.length l1) : Nat) : Int))
 (k false)
 (c_laws_eqPortValueS_rr_0 N b b1 l l1 (0 : Int) (
 (k false)) (
 (k true))))
theorem e_laws_eqPortValueS_rr (N : Nat) {R : Type} (b : Bool) (b1 : Bool) (l : List PortValue) (l1 : List PortValue) (K : AV → Hp E → Option R) :
    runFnI (E := E) (O_laws_eqPortValueS_rr N) (IT_laws_eqPortValueS_rr_0 N) sl_laws_eqPortValueS_rr J_laws_eqPortValueS_rr Try.f46 [(AV.sc (SV.slc 0 none b)), (AV.sc (SV.slc 1 none b1))] [(some (HE.mk true (HB.rows (B.iPortValue l)))), (some (HE.mk true (HB.rows (B.iPortValue l1))))] K =
      g_laws_eqPortValueS_rr N b b1 l l1 (fun b5 => K (AV.sc (SV.bool b5)) [(some (HE.mk true (HB.rows (B.iPortValue l)))), (some (HE.mk true (HB.rows (B.iPortValue l1))))]) := by kernel_rfl
noncomputable def o_laws_eqPortValueS_rr (N : Nat) {R : Type} (args : List AV) (H : Hp E) (K : AV → Hp E → Option R) : Option R :=
 match args, H with
 | [(AV.sc (SV.slc 0 none b)), (AV.sc (SV.slc 1 none b1))], [(some (HE.mk true (HB.rows (B.iPortValue l)))), (some (HE.mk true (HB.rows (B.iPortValue l1))))] => g_laws_eqPortValueS_rr N b b1 l l1 (fun b5 => K (AV.sc (SV.bool b5)) [(some (HE.mk true (HB.rows (B.iPortValue l)))), (some (HE.mk true (HB.rows (B.iPortValue l1))))])
 | _, _ => none
theorem o_laws_eqPortValueS_rr_ok (N : Nat) : FnOk E 46 (o_laws_eqPortValueS_rr N) := by
  intro R args H K r h
  unfold o_laws_eqPortValueS_rr at h
  dsimp only at h
  split at h
  · exact fnB_ok (ids := [0]) (top := [0]) ok (O_laws_eqPortValueS_rr_ok N) (jn_ok _ _ _) Try.func46 (by kernel_rfl) (IT := IT_laws_eqPortValueS_rr_0 N) (sl := sl_laws_eqPortValueS_rr) (J := J_laws_eqPortValueS_rr) (K := K) (H := [(some (HE.mk true (HB.rows (B.iPortValue _)))), (some (HE.mk true (HB.rows (B.iPortValue _))))]) (IT_laws_eqPortValueS_rr_0_ok N) (by kernel_rfl) rfl ((e_laws_eqPortValueS_rr N _ _ _ _ K).trans h)
  · cases h
end Go.Sa
