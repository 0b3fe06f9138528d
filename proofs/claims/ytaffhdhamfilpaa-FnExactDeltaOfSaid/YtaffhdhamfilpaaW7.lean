import Derived.Test.YtaffhdhamfilpaaSpec
import Derived.Test.YtaffhdhamfilpaaPLb
import Derived.Test.YtaffhdhamfilpaaW6
set_option linter.all false
namespace Go.Sa
open Go Go.Eng Go.Proofs
set_option maxRecDepth 100000
set_option maxHeartbeats 4000000
/-! ### loop.example/g00038/impl.MachineFault -/
abbrev sl_impl_MachineFault_wwwww : SlotT := []
abbrev J_impl_MachineFault_wwwww : JT := jn [(1, [(107, .b)])] [] []
noncomputable def O_impl_MachineFault_wwwww (N : Nat) : Orc E := addFn 79 (o_impl_yportsOk_r N) (addFn 78 (o_impl_yin N) (addFn 77 (o_impl_ywordsOk_r N) (addFn 76 (o_impl_yisWord N) (addFn 75 (o_impl_ymemOk N) (noFn)))))
noncomputable def pa_impl_MachineFault_wwwww__o_impl_yportsOk_r (N : Nat) (G_impl_yportsOk_r : ∀ {R : Type} (b : Bool) (l : List PortValue) (k : Bool → Option R), Option R) {R : Type} (args : List AV) (H : Hp E) (K : AV → Hp E → Option R) : Option R :=
 match args, H with
 | [(AV.sc (SV.slc 0 none b))], [(some (HE.mk true (HB.rows (B.iPortValue l))))] => G_impl_yportsOk_r b l (fun b2 => K (AV.sc (SV.bool b2)) [(some (HE.mk true (HB.rows (B.iPortValue l))))])
 | _, _ => none
noncomputable def pa_impl_MachineFault_wwwww__o_impl_yin (N : Nat) (G_impl_yin : ∀ {R : Type} (n : Int) (n1 : Int) (n2 : Int) (k : Bool → Option R), Option R) {R : Type} (args : List AV) (H : Hp E) (K : AV → Hp E → Option R) : Option R :=
 match args, H with
 | [(AV.sc (SV.int IntKind.i64 n)), (AV.sc (SV.int IntKind.i64 n1)), (AV.sc (SV.int IntKind.i64 n2))], [] => G_impl_yin n n1 n2 (fun b => K (AV.sc (SV.bool b)) [])
 | _, _ => none
noncomputable def pa_impl_MachineFault_wwwww__o_impl_ywordsOk_r (N : Nat) (G_impl_ywordsOk_r : ∀ {R : Type} (b : Bool) (n : Int) (l : List Int) (k : Bool → Option R), Option R) {R : Type} (args : List AV) (H : Hp E) (K : AV → Hp E → Option R) : Option R :=
 match args, H with
 | [(AV.sc (SV.slc 0 none b)), (AV.sc (SV.int IntKind.i64 n))], [(some (HE.mk true (HB.rows (B.i64 l))))] => G_impl_ywordsOk_r b n l (fun b2 => K (AV.sc (SV.bool b2)) [(some (HE.mk true (HB.rows (B.i64 l))))])
 | _, _ => none
noncomputable def pa_impl_MachineFault_wwwww__o_impl_yisWord (N : Nat) (G_impl_yisWord : ∀ {R : Type} (n : Int) (k : Bool → Option R), Option R) {R : Type} (args : List AV) (H : Hp E) (K : AV → Hp E → Option R) : Option R :=
 match args, H with
 | [(AV.sc (SV.int IntKind.i64 n))], [] => G_impl_yisWord n (fun b => K (AV.sc (SV.bool b)) [])
 | _, _ => none
noncomputable def pa_impl_MachineFault_wwwww__o_impl_ymemOk (N : Nat) (G_impl_ymemOk : ∀ {R : Type} (s : ByteArray) (k : Bool → Option R), Option R) {R : Type} (args : List AV) (H : Hp E) (K : AV → Hp E → Option R) : Option R :=
 match args, H with
 | [(AV.sc (SV.str s))], [] => G_impl_ymemOk s (fun b => K (AV.sc (SV.bool b)) [])
 | _, _ => none
noncomputable def OA_impl_MachineFault_wwwww (N : Nat) (G_impl_yportsOk_r : ∀ {R : Type} (b : Bool) (l : List PortValue) (k : Bool → Option R), Option R) (G_impl_yin : ∀ {R : Type} (n : Int) (n1 : Int) (n2 : Int) (k : Bool → Option R), Option R) (G_impl_ywordsOk_r : ∀ {R : Type} (b : Bool) (n : Int) (l : List Int) (k : Bool → Option R), Option R) (G_impl_yisWord : ∀ {R : Type} (n : Int) (k : Bool → Option R), Option R) (G_impl_ymemOk : ∀ {R : Type} (s : ByteArray) (k : Bool → Option R), Option R) : Orc E := addFn 79 (pa_impl_MachineFault_wwwww__o_impl_yportsOk_r N G_impl_yportsOk_r) (addFn 78 (pa_impl_MachineFault_wwwww__o_impl_yin N G_impl_yin) (addFn 77 (pa_impl_MachineFault_wwwww__o_impl_ywordsOk_r N G_impl_ywordsOk_r) (addFn 76 (pa_impl_MachineFault_wwwww__o_impl_yisWord N G_impl_yisWord) (addFn 75 (pa_impl_MachineFault_wwwww__o_impl_ymemOk N G_impl_ymemOk) (noFn)))))
theorem O_impl_MachineFault_wwwww_ok (N : Nat) : OrcOk (O_impl_MachineFault_wwwww N) := addFn_ok (o_impl_yportsOk_r_ok N) (addFn_ok (o_impl_yin_ok N) (addFn_ok (o_impl_ywordsOk_r_ok N) (addFn_ok (o_impl_yisWord_ok N) (addFn_ok (o_impl_ymemOk_ok N) (noFn_ok)))))
noncomputable def g_impl_MachineFault_wwwww (N : Nat) {R : Type} (n : Int) (b : Bool) (n1 : Int) (b1 : Bool) (b2 : Bool) (s : ByteArray) (n2 : Int) (n3 : Int) (n4 : Int) (b3 : Bool) (b4 : Bool) (n5 : Int) (l : List Int) (l1 : List Int) (l2 : List Int) (l3 : List PortValue) (l4 : List PortValue) (k : Int → Option R) : Option R :=
 (oK (g_impl_ymemOk N s fun b5 =>
 (cond (!b5)
 (some true)
 (g_impl_yisWord N n fun b6 =>
 (cond (!b6)
 (some true)
 (g_impl_ywordsOk_r N b (16 : Int) l fun b7 =>
 (cond (!b7)
 (some true)
 (cond (decide (((0 : Int) < (((List.length l) : Nat) : Int))))
 (elemK l 0 fun x =>
 (cond (x != (0 : Int))
 (some true)
 (g_impl_ywordsOk_r N b1 (12 : Int) l1 fun b8 =>
 (cond (!b8)
 (some true)
 (g_impl_ywordsOk_r N b2 (16 : Int) l2 fun b9 =>
 (cond (!b9)
 (some true)
 (g_impl_yin N n1 (0 : Int) (1 : Int) fun b10 =>
 (cond (!b10)
 (some true)
 (g_impl_yin N n2 (0 : Int) (2 : Int) fun b11 =>
 (cond (!b11)
 (some true)
 (g_impl_yin N n3 (0 : Int) (1099511627776 : Int) fun b12 =>
 (cond (!b12)
 (some true)
 (g_impl_yin N n4 (0 : Int) (127 : Int) fun b13 =>
 (cond (!b13)
 (some true)
 (g_impl_yportsOk_r N b3 l3 fun b14 =>
 (cond (!b14)
 (some true)
 (g_impl_yportsOk_r N b4 l4 fun b15 =>
 (cond (!b15)
 (some true)
 (g_impl_yin N n5 (0 : Int) (2147483628 : Int) fun b16 =>
 (cond (!b16)
 (some true)
 (cond (decide (((0 : Int) < (((List.length l1) : Nat) : Int))))
 (elemK l1 0 fun x1 =>
 (cond (decide ((x1 ≥ (32 : Int))))
 (some true)
 (cond (decide (((8 : Int) < (((List.length l1) : Nat) : Int))))
 (elemK l1 8 fun x2 =>
 (cond (x2 != (0 : Int))
 (some true)
 (cond (decide (((9 : Int) < (((List.length l1) : Nat) : Int))))
 (elemK l1 9 fun x3 =>
 (cond (x3 != (0 : Int))
 (some true)
 (cond (decide (((11 : Int) < (((List.length l1) : Nat) : Int))))
 (elemK l1 11 fun x4 =>
 (some (x4 != (0 : Int))))
 none)))
 none)))
 none)))
 none)))))))))))))))))))))
 none))))))) fun j =>
 (cond j
 (k (1 : Int))
 (k (0 : Int))))
noncomputable def ga_g_impl_MachineFault_wwwww (N : Nat) (G_impl_yportsOk_r : ∀ {R : Type} (b : Bool) (l : List PortValue) (k : Bool → Option R), Option R) (G_impl_yin : ∀ {R : Type} (n : Int) (n1 : Int) (n2 : Int) (k : Bool → Option R), Option R) (G_impl_ywordsOk_r : ∀ {R : Type} (b : Bool) (n : Int) (l : List Int) (k : Bool → Option R), Option R) (G_impl_yisWord : ∀ {R : Type} (n : Int) (k : Bool → Option R), Option R) (G_impl_ymemOk : ∀ {R : Type} (s : ByteArray) (k : Bool → Option R), Option R) {R : Type} (n : Int) (b : Bool) (n1 : Int) (b1 : Bool) (b2 : Bool) (s : ByteArray) (n2 : Int) (n3 : Int) (n4 : Int) (b3 : Bool) (b4 : Bool) (n5 : Int) (l : List Int) (l1 : List Int) (l2 : List Int) (l3 : List PortValue) (l4 : List PortValue) (k : Int → Option R) : Option R :=
 (oK (G_impl_ymemOk s fun b5 =>
 (cond (!b5)
 (some true)
 (G_impl_yisWord n fun b6 =>
 (cond (!b6)
 (some true)
 (G_impl_ywordsOk_r b (16 : Int) l fun b7 =>
 (cond (!b7)
 (some true)
 (cond (decide (((0 : Int) < (((List.length l) : Nat) : Int))))
 (elemK l 0 fun x =>
 (cond (x != (0 : Int))
 (some true)
 (G_impl_ywordsOk_r b1 (12 : Int) l1 fun b8 =>
 (cond (!b8)
 (some true)
 (G_impl_ywordsOk_r b2 (16 : Int) l2 fun b9 =>
 (cond (!b9)
 (some true)
 (G_impl_yin n1 (0 : Int) (1 : Int) fun b10 =>
 (cond (!b10)
 (some true)
 (G_impl_yin n2 (0 : Int) (2 : Int) fun b11 =>
 (cond (!b11)
 (some true)
 (G_impl_yin n3 (0 : Int) (1099511627776 : Int) fun b12 =>
 (cond (!b12)
 (some true)
 (G_impl_yin n4 (0 : Int) (127 : Int) fun b13 =>
 (cond (!b13)
 (some true)
 (G_impl_yportsOk_r b3 l3 fun b14 =>
 (cond (!b14)
 (some true)
 (G_impl_yportsOk_r b4 l4 fun b15 =>
 (cond (!b15)
 (some true)
 (G_impl_yin n5 (0 : Int) (2147483628 : Int) fun b16 =>
 (cond (!b16)
 (some true)
 (cond (decide (((0 : Int) < (((List.length l1) : Nat) : Int))))
 (elemK l1 0 fun x1 =>
 (cond (decide ((x1 ≥ (32 : Int))))
 (some true)
 (cond (decide (((8 : Int) < (((List.length l1) : Nat) : Int))))
 (elemK l1 8 fun x2 =>
 (cond (x2 != (0 : Int))
 (some true)
 (cond (decide (((9 : Int) < (((List.length l1) : Nat) : Int))))
 (elemK l1 9 fun x3 =>
 (cond (x3 != (0 : Int))
 (some true)
 (cond (decide (((11 : Int) < (((List.length l1) : Nat) : Int))))
 (elemK l1 11 fun x4 =>
 (some (x4 != (0 : Int))))
 none)))
 none)))
 none)))
 none)))))))))))))))))))))
 none))))))) fun j =>
 (cond j
 (k (1 : Int))
 (k (0 : Int))))
theorem ea_e_impl_MachineFault_wwwww (N : Nat) (G_impl_yportsOk_r : ∀ {R : Type} (b : Bool) (l : List PortValue) (k : Bool → Option R), Option R) (G_impl_yin : ∀ {R : Type} (n : Int) (n1 : Int) (n2 : Int) (k : Bool → Option R), Option R) (G_impl_ywordsOk_r : ∀ {R : Type} (b : Bool) (n : Int) (l : List Int) (k : Bool → Option R), Option R) (G_impl_yisWord : ∀ {R : Type} (n : Int) (k : Bool → Option R), Option R) (G_impl_ymemOk : ∀ {R : Type} (s : ByteArray) (k : Bool → Option R), Option R) {R : Type} (n : Int) (b : Bool) (n1 : Int) (b1 : Bool) (b2 : Bool) (s : ByteArray) (n2 : Int) (n3 : Int) (n4 : Int) (b3 : Bool) (b4 : Bool) (n5 : Int) (l : List Int) (l1 : List Int) (l2 : List Int) (l3 : List PortValue) (l4 : List PortValue) (K : AV → Hp E → Option R) :
    runFnI (E := E) (OA_impl_MachineFault_wwwww N G_impl_yportsOk_r G_impl_yin G_impl_ywordsOk_r G_impl_yisWord G_impl_ymemOk) (noIt) sl_impl_MachineFault_wwwww J_impl_MachineFault_wwwww Try.f35 [(AV.agg [(SV.int IntKind.i64 n), (SV.slc 0 none b), (SV.int IntKind.i64 n1), (SV.slc 1 none b1), (SV.slc 2 none b2), (SV.str s), (SV.int IntKind.i64 n2), (SV.int IntKind.i64 n3), (SV.int IntKind.i64 n4), (SV.slc 3 none b3), (SV.slc 4 none b4), (SV.int IntKind.i64 n5)])] [(some (HE.mk false (HB.rows (B.i64 l)))), (some (HE.mk false (HB.rows (B.i64 l1)))), (some (HE.mk false (HB.rows (B.i64 l2)))), (some (HE.mk false (HB.rows (B.iPortValue l3)))), (some (HE.mk false (HB.rows (B.iPortValue l4))))] K =
      ga_g_impl_MachineFault_wwwww N G_impl_yportsOk_r G_impl_yin G_impl_ywordsOk_r G_impl_yisWord G_impl_ymemOk n b n1 b1 b2 s n2 n3 n4 b3 b4 n5 l l1 l2 l3 l4 (fun n6 => K (AV.sc (SV.int IntKind.i64 n6)) [(some (HE.mk false (HB.rows (B.i64 l)))), (some (HE.mk false (HB.rows (B.i64 l1)))), (some (HE.mk false (HB.rows (B.i64 l2)))), (some (HE.mk false (HB.rows (B.iPortValue l3)))), (some (HE.mk false (HB.rows (B.iPortValue l4))))]) := by kernel_rfl
theorem e_impl_MachineFault_wwwww (N : Nat) {R : Type} (n : Int) (b : Bool) (n1 : Int) (b1 : Bool) (b2 : Bool) (s : ByteArray) (n2 : Int) (n3 : Int) (n4 : Int) (b3 : Bool) (b4 : Bool) (n5 : Int) (l : List Int) (l1 : List Int) (l2 : List Int) (l3 : List PortValue) (l4 : List PortValue) (K : AV → Hp E → Option R) :
    runFnI (E := E) (O_impl_MachineFault_wwwww N) (noIt) sl_impl_MachineFault_wwwww J_impl_MachineFault_wwwww Try.f35 [(AV.agg [(SV.int IntKind.i64 n), (SV.slc 0 none b), (SV.int IntKind.i64 n1), (SV.slc 1 none b1), (SV.slc 2 none b2), (SV.str s), (SV.int IntKind.i64 n2), (SV.int IntKind.i64 n3), (SV.int IntKind.i64 n4), (SV.slc 3 none b3), (SV.slc 4 none b4), (SV.int IntKind.i64 n5)])] [(some (HE.mk false (HB.rows (B.i64 l)))), (some (HE.mk false (HB.rows (B.i64 l1)))), (some (HE.mk false (HB.rows (B.i64 l2)))), (some (HE.mk false (HB.rows (B.iPortValue l3)))), (some (HE.mk false (HB.rows (B.iPortValue l4))))] K =
      g_impl_MachineFault_wwwww N n b n1 b1 b2 s n2 n3 n4 b3 b4 n5 l l1 l2 l3 l4 (fun n6 => K (AV.sc (SV.int IntKind.i64 n6)) [(some (HE.mk false (HB.rows (B.i64 l)))), (some (HE.mk false (HB.rows (B.i64 l1)))), (some (HE.mk false (HB.rows (B.i64 l2)))), (some (HE.mk false (HB.rows (B.iPortValue l3)))), (some (HE.mk false (HB.rows (B.iPortValue l4))))]) := castPr (by kernel_rfl) (ea_e_impl_MachineFault_wwwww N (g_impl_yportsOk_r N) (g_impl_yin N) (g_impl_ywordsOk_r N) (g_impl_yisWord N) (g_impl_ymemOk N) n b n1 b1 b2 s n2 n3 n4 b3 b4 n5 l l1 l2 l3 l4 K)
noncomputable def o_impl_MachineFault_wwwww (N : Nat) {R : Type} (args : List AV) (H : Hp E) (K : AV → Hp E → Option R) : Option R :=
 match args, H with
 | [(AV.agg [(SV.int IntKind.i64 n), (SV.slc 0 none b), (SV.int IntKind.i64 n1), (SV.slc 1 none b1), (SV.slc 2 none b2), (SV.str s), (SV.int IntKind.i64 n2), (SV.int IntKind.i64 n3), (SV.int IntKind.i64 n4), (SV.slc 3 none b3), (SV.slc 4 none b4), (SV.int IntKind.i64 n5)])], [(some (HE.mk false (HB.rows (B.i64 l)))), (some (HE.mk false (HB.rows (B.i64 l1)))), (some (HE.mk false (HB.rows (B.i64 l2)))), (some (HE.mk false (HB.rows (B.iPortValue l3)))), (some (HE.mk false (HB.rows (B.iPortValue l4))))] => g_impl_MachineFault_wwwww N n b n1 b1 b2 s n2 n3 n4 b3 b4 n5 l l1 l2 l3 l4 (fun n6 => K (AV.sc (SV.int IntKind.i64 n6)) [(some (HE.mk false (HB.rows (B.i64 l)))), (some (HE.mk false (HB.rows (B.i64 l1)))), (some (HE.mk false (HB.rows (B.i64 l2)))), (some (HE.mk false (HB.rows (B.iPortValue l3)))), (some (HE.mk false (HB.rows (B.iPortValue l4))))])
 | _, _ => none
theorem o_impl_MachineFault_wwwww_ok (N : Nat) : FnOk E 35 (o_impl_MachineFault_wwwww N) := by
  intro R args H K r h
  unfold o_impl_MachineFault_wwwww at h
  dsimp only at h
  split at h
  · exact fnB_ok (ids := []) (top := []) ok (O_impl_MachineFault_wwwww_ok N) (jn_ok _ _ _) Try.func35 (by kernel_rfl) (IT := noIt) (sl := sl_impl_MachineFault_wwwww) (J := J_impl_MachineFault_wwwww) (K := K) (H := [(some (HE.mk false (HB.rows (B.i64 _)))), (some (HE.mk false (HB.rows (B.i64 _)))), (some (HE.mk false (HB.rows (B.i64 _)))), (some (HE.mk false (HB.rows (B.iPortValue _)))), (some (HE.mk false (HB.rows (B.iPortValue _))))]) (noIt_ok) (by kernel_rfl) rfl ((e_impl_MachineFault_wwwww N _ _ _ _ _ _ _ _ _ _ _ _ _ _ _ _ _ K).trans h)
  · cases h
/-! ### (*strings.Builder).WriteString -/
abbrev sl_strings_Builder_WriteString_Ww : SlotT := []
abbrev J_strings_Builder_WriteString_Ww : JT := jn [] [] []
noncomputable def O_strings_Builder_WriteString_Ww (N : Nat) : Orc E := addFn 80 osp_80 (noFn)
theorem O_strings_Builder_WriteString_Ww_ok (N : Nat) : OrcOk (O_strings_Builder_WriteString_Ww N) := addFn_ok osp_80_ok (noFn_ok)
noncomputable def g_strings_Builder_WriteString_Ww (N : Nat) {R : Type} (s : ByteArray) (b : Bool) (l : List Int) (k : Int → Bool → (List Int) → Option R) : Option R :=
 (cond (Go.Eng.roomOk ((List.length l) + (List.length (Go.Eng.ofBytes s))) 1)
 (k (((ByteArray.size s) : Nat) : Int) (cond (Nat.beq (List.length (Go.Eng.ofBytes s)) 0) b false) (l ++ (Go.Eng.ofBytes s)))
 none)
theorem e_strings_Builder_WriteString_Ww (N : Nat) {R : Type} (s : ByteArray) (b : Bool) (l : List Int) (K : AV → Hp E → Option R) :
    runFnI (E := E) (O_strings_Builder_WriteString_Ww N) (noIt) sl_strings_Builder_WriteString_Ww J_strings_Builder_WriteString_Ww Try.f36 [(AV.sc (SV.ptr 0 0 0)), (AV.sc (SV.str s))] [(some (HE.mk false (HB.exp (some 69) [SV.nilp, (SV.slc 1 none b)]))), (some (HE.mk false (HB.rows (B.u8 l))))] K =
      g_strings_Builder_WriteString_Ww N s b l (fun n b1 l1 => K (AV.tup [(false, [(SV.int IntKind.i64 n)]), (false, [SV.nili])]) [(some (HE.mk false (HB.exp (some 69) [(SV.ptr 0 0 0), (SV.slc 2 none b1)]))), none, (some (HE.mk false (HB.rows (B.u8 l1))))]) := by kernel_rfl
noncomputable def o_strings_Builder_WriteString_Ww (N : Nat) {R : Type} (args : List AV) (H : Hp E) (K : AV → Hp E → Option R) : Option R :=
 match args, H with
 | [(AV.sc (SV.ptr 0 0 0)), (AV.sc (SV.str s))], [(some (HE.mk false (HB.exp (some 69) [SV.nilp, (SV.slc 1 none b)]))), (some (HE.mk false (HB.rows (B.u8 l))))] => g_strings_Builder_WriteString_Ww N s b l (fun n b1 l1 => K (AV.tup [(false, [(SV.int IntKind.i64 n)]), (false, [SV.nili])]) [(some (HE.mk false (HB.exp (some 69) [(SV.ptr 0 0 0), (SV.slc 2 none b1)]))), none, (some (HE.mk false (HB.rows (B.u8 l1))))])
 | _, _ => none
theorem o_strings_Builder_WriteString_Ww_ok (N : Nat) : FnOk E 36 (o_strings_Builder_WriteString_Ww N) := by
  intro R args H K r h
  unfold o_strings_Builder_WriteString_Ww at h
  dsimp only at h
  split at h
  · exact fnB_ok (ids := []) (top := []) ok (O_strings_Builder_WriteString_Ww_ok N) (jn_ok _ _ _) Try.func36 (by kernel_rfl) (IT := noIt) (sl := sl_strings_Builder_WriteString_Ww) (J := J_strings_Builder_WriteString_Ww) (K := K) (H := [(some (HE.mk false (HB.exp (some 69) [SV.nilp, (SV.slc 1 none _)]))), (some (HE.mk false (HB.rows (B.u8 _))))]) (noIt_ok) (by kernel_rfl) rfl ((e_strings_Builder_WriteString_Ww N _ _ _ K).trans h)
  · cases h
/-! ### loop.example/g00038/impl.PutWord -/
abbrev sl_impl_PutWord : SlotT := []
abbrev J_impl_PutWord : JT := jn [] [] []
noncomputable def O_impl_PutWord (N : Nat) : Orc E := noFn
theorem O_impl_PutWord_ok (N : Nat) : OrcOk (O_impl_PutWord N) := noFn_ok
noncomputable def g_impl_PutWord (N : Nat) {R : Type} (n : Int) (k : ByteArray → Option R) : Option R :=
 (k (Go.Eng.toBytes (Go.Eng.seg [(IntKind.wrap IntKind.u8 (IntKind.wrap IntKind.u32 n)), (IntKind.wrap IntKind.u8 (Int.fdiv (IntKind.wrap IntKind.u32 n) (256 : Int))), (IntKind.wrap IntKind.u8 (Int.fdiv (IntKind.wrap IntKind.u32 n) (65536 : Int))), (IntKind.wrap IntKind.u8 (Int.fdiv (IntKind.wrap IntKind.u32 n) (16777216 : Int)))] 0 (List.length [(IntKind.wrap IntKind.u8 (IntKind.wrap IntKind.u32 n)), (IntKind.wrap IntKind.u8 (Int.fdiv (IntKind.wrap IntKind.u32 n) (256 : Int))), (IntKind.wrap IntKind.u8 (Int.fdiv (IntKind.wrap IntKind.u32 n) (65536 : Int))), (IntKind.wrap IntKind.u8 (Int.fdiv (IntKind.wrap IntKind.u32 n) (16777216 : Int)))]))))
theorem e_impl_PutWord (N : Nat) {R : Type} (n : Int) (K : AV → Hp E → Option R) :
    runFnI (E := E) (O_impl_PutWord N) (noIt) sl_impl_PutWord J_impl_PutWord Try.f38 [(AV.sc (SV.int IntKind.i64 n))] [] K =
      g_impl_PutWord N n (fun s => K (AV.sc (SV.str s)) []) := by kernel_rfl
noncomputable def o_impl_PutWord (N : Nat) {R : Type} (args : List AV) (H : Hp E) (K : AV → Hp E → Option R) : Option R :=
 match args, H with
 | [(AV.sc (SV.int IntKind.i64 n))], [] => g_impl_PutWord N n (fun s => K (AV.sc (SV.str s)) [])
 | _, _ => none
theorem o_impl_PutWord_ok (N : Nat) : FnOk E 38 (o_impl_PutWord N) := by
  intro R args H K r h
  unfold o_impl_PutWord at h
  dsimp only at h
  split at h
  · exact fnB_ok (ids := []) (top := []) ok (O_impl_PutWord_ok N) (jn_ok _ _ _) Try.func38 (by kernel_rfl) (IT := noIt) (sl := sl_impl_PutWord) (J := J_impl_PutWord) (K := K) (H := []) (noIt_ok) (by kernel_rfl) rfl ((e_impl_PutWord N _ K).trans h)
  · cases h
/-! ### (*strings.Builder).WriteString -/
abbrev sl_strings_Builder_WriteString_Ww_v1 : SlotT := []
abbrev J_strings_Builder_WriteString_Ww_v1 : JT := jn [] [] []
noncomputable def O_strings_Builder_WriteString_Ww_v1 (N : Nat) : Orc E := addFn 80 osp_80 (noFn)
theorem O_strings_Builder_WriteString_Ww_v1_ok (N : Nat) : OrcOk (O_strings_Builder_WriteString_Ww_v1 N) := addFn_ok osp_80_ok (noFn_ok)
noncomputable def g_strings_Builder_WriteString_Ww_v1 (N : Nat) {R : Type} (s : ByteArray) (b : Bool) (l : List Int) (k : Int → Bool → (List Int) → Option R) : Option R :=
 (cond (Go.Eng.roomOk ((List.length l) + (List.length (Go.Eng.ofBytes s))) 1)
 (k (((ByteArray.size s) : Nat) : Int) (cond (Nat.beq (List.length (Go.Eng.ofBytes s)) 0) b false) (l ++ (Go.Eng.ofBytes s)))
 none)
theorem e_strings_Builder_WriteString_Ww_v1 (N : Nat) {R : Type} (s : ByteArray) (b : Bool) (l : List Int) (K : AV → Hp E → Option R) :
    runFnI (E := E) (O_strings_Builder_WriteString_Ww_v1 N) (noIt) sl_strings_Builder_WriteString_Ww_v1 J_strings_Builder_WriteString_Ww_v1 Try.f36 [(AV.sc (SV.ptr 0 0 0)), (AV.sc (SV.str s))] [(some (HE.mk false (HB.exp (some 69) [(SV.ptr 0 0 0), (SV.slc 1 none b)]))), (some (HE.mk false (HB.rows (B.u8 l))))] K =
      g_strings_Builder_WriteString_Ww_v1 N s b l (fun n b1 l1 => K (AV.tup [(false, [(SV.int IntKind.i64 n)]), (false, [SV.nili])]) [(some (HE.mk false (HB.exp (some 69) [(SV.ptr 0 0 0), (SV.slc 2 none b1)]))), none, (some (HE.mk false (HB.rows (B.u8 l1))))]) := by kernel_rfl
noncomputable def o_strings_Builder_WriteString_Ww_v1 (N : Nat) {R : Type} (args : List AV) (H : Hp E) (K : AV → Hp E → Option R) : Option R :=
 match args, H with
 | [(AV.sc (SV.ptr 0 0 0)), (AV.sc (SV.str s))], [(some (HE.mk false (HB.exp (some 69) [(SV.ptr 0 0 0), (SV.slc 1 none b)]))), (some (HE.mk false (HB.rows (B.u8 l))))] => g_strings_Builder_WriteString_Ww_v1 N s b l (fun n b1 l1 => K (AV.tup [(false, [(SV.int IntKind.i64 n)]), (false, [SV.nili])]) [(some (HE.mk false (HB.exp (some 69) [(SV.ptr 0 0 0), (SV.slc 2 none b1)]))), none, (some (HE.mk false (HB.rows (B.u8 l1))))])
 | _, _ => none
theorem o_strings_Builder_WriteString_Ww_v1_ok (N : Nat) : FnOk E 36 (o_strings_Builder_WriteString_Ww_v1 N) := by
  intro R args H K r h
  unfold o_strings_Builder_WriteString_Ww_v1 at h
  dsimp only at h
  split at h
  · exact fnB_ok (ids := []) (top := []) ok (O_strings_Builder_WriteString_Ww_v1_ok N) (jn_ok _ _ _) Try.func36 (by kernel_rfl) (IT := noIt) (sl := sl_strings_Builder_WriteString_Ww_v1) (J := J_strings_Builder_WriteString_Ww_v1) (K := K) (H := [(some (HE.mk false (HB.exp (some 69) [(SV.ptr 0 0 0), (SV.slc 1 none _)]))), (some (HE.mk false (HB.rows (B.u8 _))))]) (noIt_ok) (by kernel_rfl) rfl ((e_strings_Builder_WriteString_Ww_v1 N _ _ _ K).trans h)
  · cases h
/-! ### loop.example/g00038/impl.PackMachine$1 -/
abbrev sl_impl_PackMachine_1_wWw : SlotT := [(0, ([1, 5, 6, 7], []))]
abbrev J_impl_PackMachine_1_wWw : JT := jn [] [] []
noncomputable def O_impl_PackMachine_1_wWw (N : Nat) : Orc E := addFn 36 (o_strings_Builder_WriteString_Ww_v1 N) (addFn 38 (o_impl_PutWord N) (noFn))
theorem O_impl_PackMachine_1_wWw_ok (N : Nat) : OrcOk (O_impl_PackMachine_1_wWw N) := addFn_ok (o_strings_Builder_WriteString_Ww_v1_ok N) (addFn_ok (o_impl_PutWord_ok N) (noFn_ok))
noncomputable def s_impl_PackMachine_1_wWw_0 (N : Nat) {R : Type} (b5 : Bool) (n3 : Int) (l5 : List Int) (n4 : Int) (b6 : Bool) (l6 : List Int) (ag : Int → Bool → (List Int) → Option R)  (kN : (List Int) → Bool → (List Int) → Option R) : Option R :=
 (cond (decide ((n4 < n3)))
 (cond ((decide (((0 : Int) ≤ n4))) && (decide ((n4 < (((List.length l5) : Nat) : Int)))))
 (elemK l5 (Int.toNat n4) fun x1 =>
 (g_impl_PutWord N x1 fun s1 =>
 (g_strings_Builder_WriteString_Ww_v1 N s1 b6 l6 fun n5 b7 l7 =>
 (ag (IntKind.wrap IntKind.i64 (n4 + (1 : Int))) b7 l7))))
 none)
 (kN l5 b6 l6))
noncomputable def l_impl_PackMachine_1_wWw_0 (N : Nat) {R : Type} (b5 : Bool) (n3 : Int) (l5 : List Int) (kN : (List Int) → Bool → (List Int) → Option R) : Nat → Int → Bool → (List Int) → Option R
 | 0, _, _, _ => none
 | f + 1, n4, b6, l6 => s_impl_PackMachine_1_wWw_0 N b5 n3 l5 n4 b6 l6 (fun n4 b6 l6 => l_impl_PackMachine_1_wWw_0 N b5 n3 l5 kN f n4 b6 l6)  kN
noncomputable def c_impl_PackMachine_1_wWw_0 (N : Nat) {R : Type} (b5 : Bool) (n3 : Int) (l5 : List Int) (n4 : Int) (b6 : Bool) (l6 : List Int) (kN : (List Int) → Bool → (List Int) → Option R) : Option R := l_impl_PackMachine_1_wWw_0 N b5 n3 l5 kN N n4 b6 l6
theorem se_impl_PackMachine_1_wWw_0 (N : Nat) {R : Type} (b5 : Bool) (n3 : Int) (l5 : List Int) (n4 : Int) (b6 : Bool) (l6 : List Int) (AG : List (Option AV) → Hp E → Option R) (KL : Ex → List (Option AV) → Hp E → Option R) :
    iterStep (E := E) (O_impl_PackMachine_1_wWw N) (fun {R} => LI (noIt) 3 15 sl_impl_PackMachine_1_wWw (R := R)) J_impl_PackMachine_1_wWw 3 15 0 [1, 5, 6, 7] [] (body Try.f37 0) AG KL [(some (AV.sc (SV.ptr 1 0 0))), (some (AV.sc (SV.slc 0 none b5))), (some (AV.sc (SV.int IntKind.i64 n3))), (some (AV.sc (SV.int IntKind.i64 n4)))] [(some (HE.mk false (HB.rows (B.i64 l5)))), (some (HE.mk false (HB.exp (some 69) [(SV.ptr 1 0 0), (SV.slc 3 none b6)]))), none, (some (HE.mk false (HB.rows (B.u8 l6))))] =
      s_impl_PackMachine_1_wWw_0 N b5 n3 l5 n4 b6 l6 (fun n4 b6 l6 => AG [(some (AV.sc (SV.ptr 1 0 0))), (some (AV.sc (SV.slc 0 none b5))), (some (AV.sc (SV.int IntKind.i64 n3))), (some (AV.sc (SV.int IntKind.i64 n4)))] [(some (HE.mk false (HB.rows (B.i64 l5)))), (some (HE.mk false (HB.exp (some 69) [(SV.ptr 1 0 0), (SV.slc 3 none b6)]))), none, (some (HE.mk false (HB.rows (B.u8 l6))))])  (fun l12 b10 l13 => KL Ex.normal [] [(some (HE.mk false (HB.rows (B.i64 l12)))), (some (HE.mk false (HB.exp (some 69) [(SV.ptr 1 0 0), (SV.slc 3 none b10)]))), none, (some (HE.mk false (HB.rows (B.u8 l13))))]) := by kernel_rfl
theorem le_impl_PackMachine_1_wWw_0 (N : Nat) {R : Type} (b5 : Bool) (n3 : Int) (l5 : List Int) (KL : Ex → List (Option AV) → Hp E → Option R) : ∀ (f : Nat), ∀ (n4 : Int) (b6 : Bool) (l6 : List Int), iterK (E := E) (O_impl_PackMachine_1_wWw N) (fun {R} => LI (noIt) 3 15 sl_impl_PackMachine_1_wWw (R := R)) J_impl_PackMachine_1_wWw 3 15 0 [1, 5, 6, 7] [] (body Try.f37 0) f [(some (AV.sc (SV.ptr 1 0 0))), (some (AV.sc (SV.slc 0 none b5))), (some (AV.sc (SV.int IntKind.i64 n3))), (some (AV.sc (SV.int IntKind.i64 n4)))] [(some (HE.mk false (HB.rows (B.i64 l5)))), (some (HE.mk false (HB.exp (some 69) [(SV.ptr 1 0 0), (SV.slc 3 none b6)]))), none, (some (HE.mk false (HB.rows (B.u8 l6))))] KL = l_impl_PackMachine_1_wWw_0 N b5 n3 l5 (fun l12 b10 l13 => KL Ex.normal [] [(some (HE.mk false (HB.rows (B.i64 l12)))), (some (HE.mk false (HB.exp (some 69) [(SV.ptr 1 0 0), (SV.slc 3 none b10)]))), none, (some (HE.mk false (HB.rows (B.u8 l13))))]) f n4 b6 l6 := by
  intro f
  induction f with
  | zero => intros; rfl
  | succ f ih =>
    intro n4 b6 l6
    rw [iterK_succ, se_impl_PackMachine_1_wWw_0]
    exact (congrArg (fun z0 => s_impl_PackMachine_1_wWw_0 N b5 n3 l5 n4 b6 l6 z0 (fun l12 b10 l13 => KL Ex.normal [] [(some (HE.mk false (HB.rows (B.i64 l12)))), (some (HE.mk false (HB.exp (some 69) [(SV.ptr 1 0 0), (SV.slc 3 none b10)]))), none, (some (HE.mk false (HB.rows (B.u8 l13))))])) (funext fun n4 => funext fun b6 => funext fun l6 => ih n4 b6 l6))
noncomputable def s_impl_PackMachine_1_wWw_0b1 (N : Nat) {R : Type} (b2 : Bool) (n : Int) (n1 : Int) (l2 : List Int) (b3 : Bool) (l3 : List Int)  (ag1 : Bool → Int → Int → (List Int) → Bool → (List Int) → Option R) (kNb1 : Option R) : Option R :=
 (cond (decide ((n1 < n)))
 (cond ((decide (((0 : Int) ≤ n1))) && (decide ((n1 < (((List.length l2) : Nat) : Int)))))
 (elemK l2 (Int.toNat n1) fun x =>
 (g_impl_PutWord N x fun s =>
 (g_strings_Builder_WriteString_Ww_v1 N s b3 l3 fun n2 b4 l4 =>
 (ag1 b2 n (IntKind.wrap IntKind.i64 (n1 + (1 : Int))) l2 b4 l4))))
 none)
 kNb1)
noncomputable def l_impl_PackMachine_1_wWw_0b1 (N : Nat) {R : Type} (b2 : Bool) (n : Int) (n1 : Int) (l2 : List Int) (b3 : Bool) (l3 : List Int) (kNb1 : Option R) (kN : (List Int) → Bool → (List Int) → Option R) : Nat → Option R
 | 0 => none
 | f + 1 => s_impl_PackMachine_1_wWw_0b1 N b2 n n1 l2 b3 l3  (fun b5 n3 n4 l5 b6 l6 => l_impl_PackMachine_1_wWw_0 N b5 n3 l5 kN f n4 b6 l6) kNb1
noncomputable def c_impl_PackMachine_1_wWw_0b1 (N : Nat) {R : Type} (b2 : Bool) (n : Int) (n1 : Int) (l2 : List Int) (b3 : Bool) (l3 : List Int)  (kNb1 : Option R) (kN : (List Int) → Bool → (List Int) → Option R) : Option R := l_impl_PackMachine_1_wWw_0b1 N b2 n n1 l2 b3 l3 kNb1 kN N 
theorem se_impl_PackMachine_1_wWw_0b1 (N : Nat) {R : Type} (b2 : Bool) (n : Int) (n1 : Int) (l2 : List Int) (b3 : Bool) (l3 : List Int)  (AG : List (Option AV) → Hp E → Option R) (KL : Ex → List (Option AV) → Hp E → Option R) :
    iterStep (E := E) (O_impl_PackMachine_1_wWw N) (fun {R} => LI (noIt) 3 15 sl_impl_PackMachine_1_wWw (R := R)) J_impl_PackMachine_1_wWw 3 15 0 [1, 5, 6, 7] [] (body Try.f37 0) AG KL [(some (AV.sc (SV.ptr 1 0 0))), (some (AV.sc (SV.slc 0 none b2))), (some (AV.sc (SV.int IntKind.i64 n))), (some (AV.sc (SV.int IntKind.i64 n1)))] [(some (HE.mk false (HB.rows (B.i64 l2)))), (some (HE.mk false (HB.exp (some 69) [(SV.ptr 1 0 0), (SV.slc 2 none b3)]))), (some (HE.mk false (HB.rows (B.u8 l3))))] =
      s_impl_PackMachine_1_wWw_0b1 N b2 n n1 l2 b3 l3  (fun b5 n3 n4 l5 b6 l6 => AG [(some (AV.sc (SV.ptr 1 0 0))), (some (AV.sc (SV.slc 0 none b5))), (some (AV.sc (SV.int IntKind.i64 n3))), (some (AV.sc (SV.int IntKind.i64 n4)))] [(some (HE.mk false (HB.rows (B.i64 l5)))), (some (HE.mk false (HB.exp (some 69) [(SV.ptr 1 0 0), (SV.slc 3 none b6)]))), none, (some (HE.mk false (HB.rows (B.u8 l6))))]) (KL Ex.normal [] [(some (HE.mk false (HB.rows (B.i64 l2)))), (some (HE.mk false (HB.exp (some 69) [(SV.ptr 1 0 0), (SV.slc 2 none b3)]))), (some (HE.mk false (HB.rows (B.u8 l3))))]) := by kernel_rfl
theorem le_impl_PackMachine_1_wWw_0b1 (N : Nat) {R : Type} (b2 : Bool) (n : Int) (n1 : Int) (l2 : List Int) (b3 : Bool) (l3 : List Int) (KL : Ex → List (Option AV) → Hp E → Option R) : ∀ (f : Nat), iterK (E := E) (O_impl_PackMachine_1_wWw N) (fun {R} => LI (noIt) 3 15 sl_impl_PackMachine_1_wWw (R := R)) J_impl_PackMachine_1_wWw 3 15 0 [1, 5, 6, 7] [] (body Try.f37 0) f [(some (AV.sc (SV.ptr 1 0 0))), (some (AV.sc (SV.slc 0 none b2))), (some (AV.sc (SV.int IntKind.i64 n))), (some (AV.sc (SV.int IntKind.i64 n1)))] [(some (HE.mk false (HB.rows (B.i64 l2)))), (some (HE.mk false (HB.exp (some 69) [(SV.ptr 1 0 0), (SV.slc 2 none b3)]))), (some (HE.mk false (HB.rows (B.u8 l3))))] KL = l_impl_PackMachine_1_wWw_0b1 N b2 n n1 l2 b3 l3 (KL Ex.normal [] [(some (HE.mk false (HB.rows (B.i64 l2)))), (some (HE.mk false (HB.exp (some 69) [(SV.ptr 1 0 0), (SV.slc 2 none b3)]))), (some (HE.mk false (HB.rows (B.u8 l3))))]) (fun l14 b11 l15 => KL Ex.normal [] [(some (HE.mk false (HB.rows (B.i64 l14)))), (some (HE.mk false (HB.exp (some 69) [(SV.ptr 1 0 0), (SV.slc 3 none b11)]))), none, (some (HE.mk false (HB.rows (B.u8 l15))))]) f  := by
  intro f
  induction f with
  | zero => intros; rfl
  | succ f ih =>
    rw [iterK_succ, se_impl_PackMachine_1_wWw_0b1]
    exact (congrArg (fun z0 => s_impl_PackMachine_1_wWw_0b1 N b2 n n1 l2 b3 l3  z0 (KL Ex.normal [] [(some (HE.mk false (HB.rows (B.i64 l2)))), (some (HE.mk false (HB.exp (some 69) [(SV.ptr 1 0 0), (SV.slc 2 none b3)]))), (some (HE.mk false (HB.rows (B.u8 l3))))])) (funext fun b5 => funext fun n3 => funext fun n4 => funext fun l5 => funext fun b6 => funext fun l6 => le_impl_PackMachine_1_wWw_0 N b5 n3 l5 KL f n4 b6 l6))
noncomputable def i_impl_PackMachine_1_wWw_0 (N : Nat) {R : Type} (vs : List (Option AV)) (H : Hp E) (KL : Ex → List (Option AV) → Hp E → Option R) : Option R :=
 match vs, H with
 | [(some (AV.sc (SV.ptr 1 0 0))), (some (AV.sc (SV.slc 0 none b2))), (some (AV.sc (SV.int IntKind.i64 n))), (some (AV.sc (SV.int IntKind.i64 n1)))], [(some (HE.mk false (HB.rows (B.i64 l2)))), (some (HE.mk false (HB.exp (some 69) [(SV.ptr 1 0 0), (SV.slc 2 none b3)]))), (some (HE.mk false (HB.rows (B.u8 l3))))] => c_impl_PackMachine_1_wWw_0b1 N b2 n n1 l2 b3 l3  (KL Ex.normal [] [(some (HE.mk false (HB.rows (B.i64 l2)))), (some (HE.mk false (HB.exp (some 69) [(SV.ptr 1 0 0), (SV.slc 2 none b3)]))), (some (HE.mk false (HB.rows (B.u8 l3))))]) (fun l16 b12 l17 => KL Ex.normal [] [(some (HE.mk false (HB.rows (B.i64 l16)))), (some (HE.mk false (HB.exp (some 69) [(SV.ptr 1 0 0), (SV.slc 3 none b12)]))), none, (some (HE.mk false (HB.rows (B.u8 l17))))])
 | _, _ => none
noncomputable def IT_impl_PackMachine_1_wWw_0 (N : Nat) : Its E := addIt 0 (i_impl_PackMachine_1_wWw_0 N) (noIt)
theorem IT_impl_PackMachine_1_wWw_0_ok (N : Nat) : ItOk (IT_impl_PackMachine_1_wWw_0 N) 3 15 sl_impl_PackMachine_1_wWw (lsB Try.f37 [0]) :=
  addItB_ok (inner := []) ok (O_impl_PackMachine_1_wWw_ok N) (jn_ok _ _ _) (noIt_ok) rfl (by kernel_rfl) rfl fun vs H KL r h => by
    unfold i_impl_PackMachine_1_wWw_0 at h
    split at h
    · exact ⟨_, (le_impl_PackMachine_1_wWw_0b1 N _ _ _ _ _ _ KL N).trans h⟩
    · cases h
noncomputable def g_impl_PackMachine_1_wWw (N : Nat) {R : Type} (b : Bool) (l : List Int) (b1 : Bool) (l1 : List Int) (k : Option R) (k_1 : (List Int) → Bool → (List Int) → Option R) : Option R :=
 (c_impl_PackMachine_1_wWw_0b1 N b (((List.length l) : Nat) : Int) (0 : Int) l b1 l1 (
 k) (fun l8 b8 l9 =>
 (k_1 l8 b8 l9)))
theorem e_impl_PackMachine_1_wWw (N : Nat) {R : Type} (b : Bool) (l : List Int) (b1 : Bool) (l1 : List Int) (K : AV → Hp E → Option R) :
    runFnI (E := E) (O_impl_PackMachine_1_wWw N) (IT_impl_PackMachine_1_wWw_0 N) sl_impl_PackMachine_1_wWw J_impl_PackMachine_1_wWw Try.f37 [(AV.sc (SV.slc 0 none b)), (AV.sc (SV.ptr 1 0 0))] [(some (HE.mk false (HB.rows (B.i64 l)))), (some (HE.mk false (HB.exp (some 69) [(SV.ptr 1 0 0), (SV.slc 2 none b1)]))), (some (HE.mk false (HB.rows (B.u8 l1))))] K =
      g_impl_PackMachine_1_wWw N b l b1 l1 (K (AV.tup []) [(some (HE.mk false (HB.rows (B.i64 l)))), (some (HE.mk false (HB.exp (some 69) [(SV.ptr 1 0 0), (SV.slc 2 none b1)]))), (some (HE.mk false (HB.rows (B.u8 l1))))]) (fun l10 b9 l11 => K (AV.tup []) [(some (HE.mk false (HB.rows (B.i64 l10)))), (some (HE.mk false (HB.exp (some 69) [(SV.ptr 1 0 0), (SV.slc 3 none b9)]))), none, (some (HE.mk false (HB.rows (B.u8 l11))))]) := by kernel_rfl
noncomputable def o_impl_PackMachine_1_wWw (N : Nat) {R : Type} (args : List AV) (H : Hp E) (K : AV → Hp E → Option R) : Option R :=
 match args, H with
 | [(AV.sc (SV.slc 0 none b)), (AV.sc (SV.ptr 1 0 0))], [(some (HE.mk false (HB.rows (B.i64 l)))), (some (HE.mk false (HB.exp (some 69) [(SV.ptr 1 0 0), (SV.slc 2 none b1)]))), (some (HE.mk false (HB.rows (B.u8 l1))))] => g_impl_PackMachine_1_wWw N b l b1 l1 (K (AV.tup []) [(some (HE.mk false (HB.rows (B.i64 l)))), (some (HE.mk false (HB.exp (some 69) [(SV.ptr 1 0 0), (SV.slc 2 none b1)]))), (some (HE.mk false (HB.rows (B.u8 l1))))]) (fun l10 b9 l11 => K (AV.tup []) [(some (HE.mk false (HB.rows (B.i64 l10)))), (some (HE.mk false (HB.exp (some 69) [(SV.ptr 1 0 0), (SV.slc 3 none b9)]))), none, (some (HE.mk false (HB.rows (B.u8 l11))))])
 | _, _ => none
theorem o_impl_PackMachine_1_wWw_ok (N : Nat) : FnOk E 37 (o_impl_PackMachine_1_wWw N) := by
  intro R args H K r h
  unfold o_impl_PackMachine_1_wWw at h
  dsimp only at h
  split at h
  · exact fnB_ok (ids := [0]) (top := [0]) ok (O_impl_PackMachine_1_wWw_ok N) (jn_ok _ _ _) Try.func37 (by kernel_rfl) (IT := IT_impl_PackMachine_1_wWw_0 N) (sl := sl_impl_PackMachine_1_wWw) (J := J_impl_PackMachine_1_wWw) (K := K) (H := [(some (HE.mk false (HB.rows (B.i64 _)))), (some (HE.mk false (HB.exp (some 69) [(SV.ptr 1 0 0), (SV.slc 2 none _)]))), (some (HE.mk false (HB.rows (B.u8 _))))]) (IT_impl_PackMachine_1_wWw_0_ok N) (by kernel_rfl) rfl ((e_impl_PackMachine_1_wWw N _ _ _ _ K).trans h)
  · cases h
/-! ### loop.example/g00038/impl.yzeroFrame -/
abbrev sl_impl_yzeroFrame : SlotT := [(0, ([0, 1, 5], [4]))]
abbrev J_impl_yzeroFrame : JT := jn [] [] []
noncomputable def O_impl_yzeroFrame (N : Nat) : Orc E := noFn
theorem O_impl_yzeroFrame_ok (N : Nat) : OrcOk (O_impl_yzeroFrame N) := noFn_ok
noncomputable def s_impl_yzeroFrame_0 (N : Nat) {R : Type} (s1 : ByteArray) (n1 : Int) (n2 : Int) (ag : Int → Option R)  (kR : Option R) (kN : Option R) : Option R :=
 (cond (decide ((n2 < (IntKind.wrap IntKind.i64 ((IntKind.wrap IntKind.i64 (n1 + (1 : Int))) * (256 : Int))))))
 (cond ((decide (((0 : Int) ≤ n2))) && (decide ((n2 < (((ByteArray.size s1) : Nat) : Int)))))
 (cond ((Go.Eng.bt s1 (Int.toNat n2)) != (0 : Int))
 kR
 (ag (IntKind.wrap IntKind.i64 (n2 + (1 : Int)))))
 none)
 kN)
noncomputable def l_impl_yzeroFrame_0 (N : Nat) {R : Type} (s1 : ByteArray) (n1 : Int) (kR : Option R) (kN : Option R) : Nat → Int → Option R
 | 0, _ => none
 | f + 1, n2 => s_impl_yzeroFrame_0 N s1 n1 n2 (fun n2 => l_impl_yzeroFrame_0 N s1 n1 kR kN f n2)  kR kN
noncomputable def c_impl_yzeroFrame_0 (N : Nat) {R : Type} (s1 : ByteArray) (n1 : Int) (n2 : Int) (kR : Option R) (kN : Option R) : Option R := l_impl_yzeroFrame_0 N s1 n1 kR kN N n2
theorem se_impl_yzeroFrame_0 (N : Nat) {R : Type} (s1 : ByteArray) (n1 : Int) (n2 : Int) (AG : List (Option AV) → Hp E → Option R) (KL : Ex → List (Option AV) → Hp E → Option R) :
    iterStep (E := E) (O_impl_yzeroFrame N) (fun {R} => LI (noIt) 0 19 sl_impl_yzeroFrame (R := R)) J_impl_yzeroFrame 0 19 0 [0, 1, 5] [4] (body Try.f41 0) AG KL [(some (AV.sc (SV.str s1))), (some (AV.sc (SV.int IntKind.i64 n1))), (some (AV.sc (SV.int IntKind.i64 n2)))] [] =
      s_impl_yzeroFrame_0 N s1 n1 n2 (fun n2 => AG [(some (AV.sc (SV.str s1))), (some (AV.sc (SV.int IntKind.i64 n1))), (some (AV.sc (SV.int IntKind.i64 n2)))] [])  (KL Ex.ret [(some (AV.sc (SV.bool false)))] []) (KL Ex.normal [none] []) := by kernel_rfl
theorem le_impl_yzeroFrame_0 (N : Nat) {R : Type} (s1 : ByteArray) (n1 : Int) (KL : Ex → List (Option AV) → Hp E → Option R) : ∀ (f : Nat), ∀ (n2 : Int), iterK (E := E) (O_impl_yzeroFrame N) (fun {R} => LI (noIt) 0 19 sl_impl_yzeroFrame (R := R)) J_impl_yzeroFrame 0 19 0 [0, 1, 5] [4] (body Try.f41 0) f [(some (AV.sc (SV.str s1))), (some (AV.sc (SV.int IntKind.i64 n1))), (some (AV.sc (SV.int IntKind.i64 n2)))] [] KL = l_impl_yzeroFrame_0 N s1 n1 (KL Ex.ret [(some (AV.sc (SV.bool false)))] []) (KL Ex.normal [none] []) f n2 := by
  intro f
  induction f with
  | zero => intros; rfl
  | succ f ih =>
    intro n2
    rw [iterK_succ, se_impl_yzeroFrame_0]
    exact (congrArg (fun z0 => s_impl_yzeroFrame_0 N s1 n1 n2 z0 (KL Ex.ret [(some (AV.sc (SV.bool false)))] []) (KL Ex.normal [none] [])) (funext fun n2 => ih n2))
noncomputable def i_impl_yzeroFrame_0 (N : Nat) {R : Type} (vs : List (Option AV)) (H : Hp E) (KL : Ex → List (Option AV) → Hp E → Option R) : Option R :=
 match vs, H with
 | [(some (AV.sc (SV.str s1))), (some (AV.sc (SV.int IntKind.i64 n1))), (some (AV.sc (SV.int IntKind.i64 n2)))], [] => c_impl_yzeroFrame_0 N s1 n1 n2 (KL Ex.ret [(some (AV.sc (SV.bool false)))] []) (KL Ex.normal [none] [])
 | _, _ => none
noncomputable def IT_impl_yzeroFrame_0 (N : Nat) : Its E := addIt 0 (i_impl_yzeroFrame_0 N) (noIt)
theorem IT_impl_yzeroFrame_0_ok (N : Nat) : ItOk (IT_impl_yzeroFrame_0 N) 0 19 sl_impl_yzeroFrame (lsB Try.f41 [0]) :=
  addItB_ok (inner := []) ok (O_impl_yzeroFrame_ok N) (jn_ok _ _ _) (noIt_ok) rfl (by kernel_rfl) rfl fun vs H KL r h => by
    unfold i_impl_yzeroFrame_0 at h
    split at h
    · exact ⟨_, (le_impl_yzeroFrame_0 N _ _ KL N _).trans h⟩
    · cases h
noncomputable def g_impl_yzeroFrame (N : Nat) {R : Type} (s : ByteArray) (n : Int) (k : Bool → Option R) : Option R :=
 (c_impl_yzeroFrame_0 N s n (IntKind.wrap IntKind.i64 (n * (256 : Int))) (
 (k false)) (
 (k true)))
theorem e_impl_yzeroFrame (N : Nat) {R : Type} (s : ByteArray) (n : Int) (K : AV → Hp E → Option R) :
    runFnI (E := E) (O_impl_yzeroFrame N) (IT_impl_yzeroFrame_0 N) sl_impl_yzeroFrame J_impl_yzeroFrame Try.f41 [(AV.sc (SV.str s)), (AV.sc (SV.int IntKind.i64 n))] [] K =
      g_impl_yzeroFrame N s n (fun b => K (AV.sc (SV.bool b)) []) := by kernel_rfl
noncomputable def o_impl_yzeroFrame (N : Nat) {R : Type} (args : List AV) (H : Hp E) (K : AV → Hp E → Option R) : Option R :=
 match args, H with
 | [(AV.sc (SV.str s)), (AV.sc (SV.int IntKind.i64 n))], [] => g_impl_yzeroFrame N s n (fun b => K (AV.sc (SV.bool b)) [])
 | _, _ => none
theorem o_impl_yzeroFrame_ok (N : Nat) : FnOk E 41 (o_impl_yzeroFrame N) := by
  intro R args H K r h
  unfold o_impl_yzeroFrame at h
  dsimp only at h
  split at h
  · exact fnB_ok (ids := [0]) (top := [0]) ok (O_impl_yzeroFrame_ok N) (jn_ok _ _ _) Try.func41 (by kernel_rfl) (IT := IT_impl_yzeroFrame_0 N) (sl := sl_impl_yzeroFrame) (J := J_impl_yzeroFrame) (K := K) (H := []) (IT_impl_yzeroFrame_0_ok N) (by kernel_rfl) rfl ((e_impl_yzeroFrame N _ _ K).trans h)
  · cases h
/-! ### loop.example/g00038/impl.PackMachine$2 -/
abbrev sl_impl_PackMachine_2_Wwwwww : SlotT := []
abbrev J_impl_PackMachine_2_Wwwwww : JT := jn [] [] []
noncomputable def O_impl_PackMachine_2_Wwwwww (N : Nat) : Orc E := addFn 41 (o_impl_yzeroFrame N) (noFn)
theorem O_impl_PackMachine_2_Wwwwww_ok (N : Nat) : OrcOk (O_impl_PackMachine_2_Wwwwww N) := addFn_ok (o_impl_yzeroFrame_ok N) (noFn_ok)
noncomputable def g_impl_PackMachine_2_Wwwwww (N : Nat) {R : Type} (n : Int) (n1 : Int) (b : Bool) (n2 : Int) (b1 : Bool) (b2 : Bool) (s : ByteArray) (n3 : Int) (n4 : Int) (n5 : Int) (b3 : Bool) (b4 : Bool) (n6 : Int) (l : List Int) (l1 : List Int) (l2 : List Int) (l3 : List PortValue) (l4 : List PortValue) (k : Bool → Option R) : Option R :=
 (g_impl_yzeroFrame N s n fun b5 =>
 (k (!b5)))
theorem e_impl_PackMachine_2_Wwwwww (N : Nat) {R : Type} (n : Int) (n1 : Int) (b : Bool) (n2 : Int) (b1 : Bool) (b2 : Bool) (s : ByteArray) (n3 : Int) (n4 : Int) (n5 : Int) (b3 : Bool) (b4 : Bool) (n6 : Int) (l : List Int) (l1 : List Int) (l2 : List Int) (l3 : List PortValue) (l4 : List PortValue) (K : AV → Hp E → Option R) :
    runFnI (E := E) (O_impl_PackMachine_2_Wwwwww N) (noIt) sl_impl_PackMachine_2_Wwwwww J_impl_PackMachine_2_Wwwwww Try.f40 [(AV.sc (SV.int IntKind.i64 n)), (AV.sc (SV.ptr 0 0 0))] [(some (HE.mk false (HB.exp none [(SV.int IntKind.i64 n1), (SV.slc 1 none b), (SV.int IntKind.i64 n2), (SV.slc 2 none b1), (SV.slc 3 none b2), (SV.str s), (SV.int IntKind.i64 n3), (SV.int IntKind.i64 n4), (SV.int IntKind.i64 n5), (SV.slc 4 none b3), (SV.slc 5 none b4), (SV.int IntKind.i64 n6)]))), (some (HE.mk false (HB.rows (B.i64 l)))), (some (HE.mk false (HB.rows (B.i64 l1)))), (some (HE.mk false (HB.rows (B.i64 l2)))), (some (HE.mk false (HB.rows (B.iPortValue l3)))), (some (HE.mk false (HB.rows (B.iPortValue l4))))] K =
      g_impl_PackMachine_2_Wwwwww N n n1 b n2 b1 b2 s n3 n4 n5 b3 b4 n6 l l1 l2 l3 l4 (fun b6 => K (AV.sc (SV.bool b6)) [(some (HE.mk false (HB.exp none [(SV.int IntKind.i64 n1), (SV.slc 1 none b), (SV.int IntKind.i64 n2), (SV.slc 2 none b1), (SV.slc 3 none b2), (SV.str s), (SV.int IntKind.i64 n3), (SV.int IntKind.i64 n4), (SV.int IntKind.i64 n5), (SV.slc 4 none b3), (SV.slc 5 none b4), (SV.int IntKind.i64 n6)]))), (some (HE.mk false (HB.rows (B.i64 l)))), (some (HE.mk false (HB.rows (B.i64 l1)))), (some (HE.mk false (HB.rows (B.i64 l2)))), (some (HE.mk false (HB.rows (B.iPortValue l3)))), (some (HE.mk false (HB.rows (B.iPortValue l4))))]) := by kernel_rfl
noncomputable def o_impl_PackMachine_2_Wwwwww (N : Nat) {R : Type} (args : List AV) (H : Hp E) (K : AV → Hp E → Option R) : Option R :=
 match args, H with
 | [(AV.sc (SV.int IntKind.i64 n)), (AV.sc (SV.ptr 0 0 0))], [(some (HE.mk false (HB.exp none [(SV.int IntKind.i64 n1), (SV.slc 1 none b), (SV.int IntKind.i64 n2), (SV.slc 2 none b1), (SV.slc 3 none b2), (SV.str s), (SV.int IntKind.i64 n3), (SV.int IntKind.i64 n4), (SV.int IntKind.i64 n5), (SV.slc 4 none b3), (SV.slc 5 none b4), (SV.int IntKind.i64 n6)]))), (some (HE.mk false (HB.rows (B.i64 l)))), (some (HE.mk false (HB.rows (B.i64 l1)))), (some (HE.mk false (HB.rows (B.i64 l2)))), (some (HE.mk false (HB.rows (B.iPortValue l3)))), (some (HE.mk false (HB.rows (B.iPortValue l4))))] => g_impl_PackMachine_2_Wwwwww N n n1 b n2 b1 b2 s n3 n4 n5 b3 b4 n6 l l1 l2 l3 l4 (fun b6 => K (AV.sc (SV.bool b6)) [(some (HE.mk false (HB.exp none [(SV.int IntKind.i64 n1), (SV.slc 1 none b), (SV.int IntKind.i64 n2), (SV.slc 2 none b1), (SV.slc 3 none b2), (SV.str s), (SV.int IntKind.i64 n3), (SV.int IntKind.i64 n4), (SV.int IntKind.i64 n5), (SV.slc 4 none b3), (SV.slc 5 none b4), (SV.int IntKind.i64 n6)]))), (some (HE.mk false (HB.rows (B.i64 l)))), (some (HE.mk false (HB.rows (B.i64 l1)))), (some (HE.mk false (HB.rows (B.i64 l2)))), (some (HE.mk false (HB.rows (B.iPortValue l3)))), (some (HE.mk false (HB.rows (B.iPortValue l4))))])
 | _, _ => none
theorem o_impl_PackMachine_2_Wwwwww_ok (N : Nat) : FnOk E 40 (o_impl_PackMachine_2_Wwwwww N) := by
  intro R args H K r h
  unfold o_impl_PackMachine_2_Wwwwww at h
  dsimp only at h
  split at h
  · exact fnB_ok (ids := []) (top := []) ok (O_impl_PackMachine_2_Wwwwww_ok N) (jn_ok _ _ _) Try.func40 (by kernel_rfl) (IT := noIt) (sl := sl_impl_PackMachine_2_Wwwwww) (J := J_impl_PackMachine_2_Wwwwww) (K := K) (H := [(some (HE.mk false (HB.exp none [(SV.int IntKind.i64 _), (SV.slc 1 none _), (SV.int IntKind.i64 _), (SV.slc 2 none _), (SV.slc 3 none _), (SV.str _), (SV.int IntKind.i64 _), (SV.int IntKind.i64 _), (SV.int IntKind.i64 _), (SV.slc 4 none _), (SV.slc 5 none _), (SV.int IntKind.i64 _)]))), (some (HE.mk false (HB.rows (B.i64 _)))), (some (HE.mk false (HB.rows (B.i64 _)))), (some (HE.mk false (HB.rows (B.i64 _)))), (some (HE.mk false (HB.rows (B.iPortValue _)))), (some (HE.mk false (HB.rows (B.iPortValue _))))]) (noIt_ok) (by kernel_rfl) rfl ((e_impl_PackMachine_2_Wwwwww N _ _ _ _ _ _ _ _ _ _ _ _ _ _ _ _ _ _ K).trans h)
  · cases h
end Go.Sa
