import Derived.Test.YtmmgjioemnhoaaaSpec
import Derived.Test.YtmmgjioemnhoaaaPLb
import Derived.Test.YtmmgjioemnhoaaaW6
set_option linter.all false
namespace Go.Sa
open Go Go.Eng Go.Proofs
set_option maxRecDepth 100000
/-! ### loop.example/g00038/impl.DropPass -/
abbrev sl_impl_DropPass_w : SlotT := []
abbrev J_impl_DropPass_w : JT := jn [] [] [(7, [6])]
noncomputable def O_impl_DropPass_w (N : Nat) : Orc E := addFn 102 (o_slices_Delete_KeySlot_w N) (addFn 101 (o_slices_Clone_KeySlot_r N) (addFn 77 (o_impl_yin N) (addFn 86 (o_impl_VolumeFault_w N) (noFn))))
def pa_impl_DropPass_w__o_slices_Delete_KeySlot_w (N : Nat) (G_slices_Delete_KeySlot_w : ∀ {R : Type} (b : Bool) (n : Int) (n1 : Int) (l : List Go.Sa.KeySlot) (k : Option R) (k_1 : Nat → Nat → (List Go.Sa.KeySlot) → Option R), Option R) (G_slices_Clone_KeySlot_r : ∀ {R : Type} (b : Bool) (l : List Go.Sa.KeySlot) (k : Bool → (List Go.Sa.KeySlot) → Option R), Option R) (G_impl_yin : ∀ {R : Type} (n : Int) (n1 : Int) (n2 : Int) (k : Bool → Option R), Option R) (G_impl_VolumeFault_w : ∀ {R : Type} (b : Bool) (s : ByteArray) (l : List Go.Sa.KeySlot) (k : Int → Option R), Option R) {R : Type} (args : List AV) (H : Hp E) (K : AV → Hp E → Option R) : Option R :=
  match args, H with
  | [(Go.Eng.AV.sc (Go.Eng.SV.slc 0 Option.none b)), (Go.Eng.AV.sc (Go.Eng.SV.int Go.IntKind.i64 n)), (Go.Eng.AV.sc (Go.Eng.SV.int Go.IntKind.i64 n1))], [(Option.some (Go.Eng.HE.mk Bool.false (Go.Eng.HB.rows (Go.Sa.B.iKeySlot l))))] => G_slices_Delete_KeySlot_w b n n1 l (K (Go.Eng.AV.sc (Go.Eng.SV.slc 0 Option.none b)) [(Option.some (Go.Eng.HE.mk Bool.false (Go.Eng.HB.rows (Go.Sa.B.iKeySlot l))))]) (fun m m1 l1 => K (Go.Eng.AV.sc (Go.Eng.SV.slc 0 (Option.some (0, (m, m1))) b)) [(Option.some (Go.Eng.HE.mk Bool.false (Go.Eng.HB.rows (Go.Sa.B.iKeySlot l1))))])
  | _, _ => none
def pa_impl_DropPass_w__o_slices_Clone_KeySlot_r (N : Nat) (G_slices_Delete_KeySlot_w : ∀ {R : Type} (b : Bool) (n : Int) (n1 : Int) (l : List Go.Sa.KeySlot) (k : Option R) (k_1 : Nat → Nat → (List Go.Sa.KeySlot) → Option R), Option R) (G_slices_Clone_KeySlot_r : ∀ {R : Type} (b : Bool) (l : List Go.Sa.KeySlot) (k : Bool → (List Go.Sa.KeySlot) → Option R), Option R) (G_impl_yin : ∀ {R : Type} (n : Int) (n1 : Int) (n2 : Int) (k : Bool → Option R), Option R) (G_impl_VolumeFault_w : ∀ {R : Type} (b : Bool) (s : ByteArray) (l : List Go.Sa.KeySlot) (k : Int → Option R), Option R) {R : Type} (args : List AV) (H : Hp E) (K : AV → Hp E → Option R) : Option R :=
  match args, H with
  | [(Go.Eng.AV.sc (Go.Eng.SV.slc 0 Option.none b))], [(Option.some (Go.Eng.HE.mk Bool.true (Go.Eng.HB.rows (Go.Sa.B.iKeySlot l))))] => G_slices_Clone_KeySlot_r b l (fun b1 l1 => K (Go.Eng.AV.sc (Go.Eng.SV.slc 1 Option.none b1)) [(Option.some (Go.Eng.HE.mk Bool.true (Go.Eng.HB.rows (Go.Sa.B.iKeySlot l)))), (Option.some (Go.Eng.HE.mk Bool.false (Go.Eng.HB.rows (Go.Sa.B.iKeySlot l1))))])
  | _, _ => none
def pa_impl_DropPass_w__o_impl_yin (N : Nat) (G_slices_Delete_KeySlot_w : ∀ {R : Type} (b : Bool) (n : Int) (n1 : Int) (l : List Go.Sa.KeySlot) (k : Option R) (k_1 : Nat → Nat → (List Go.Sa.KeySlot) → Option R), Option R) (G_slices_Clone_KeySlot_r : ∀ {R : Type} (b : Bool) (l : List Go.Sa.KeySlot) (k : Bool → (List Go.Sa.KeySlot) → Option R), Option R) (G_impl_yin : ∀ {R : Type} (n : Int) (n1 : Int) (n2 : Int) (k : Bool → Option R), Option R) (G_impl_VolumeFault_w : ∀ {R : Type} (b : Bool) (s : ByteArray) (l : List Go.Sa.KeySlot) (k : Int → Option R), Option R) {R : Type} (args : List AV) (H : Hp E) (K : AV → Hp E → Option R) : Option R :=
  match args, H with
  | [(Go.Eng.AV.sc (Go.Eng.SV.int Go.IntKind.i64 n)), (Go.Eng.AV.sc (Go.Eng.SV.int Go.IntKind.i64 n1)), (Go.Eng.AV.sc (Go.Eng.SV.int Go.IntKind.i64 n2))], [] => G_impl_yin n n1 n2 (fun b => K (Go.Eng.AV.sc (Go.Eng.SV.bool b)) [])
  | _, _ => none
def pa_impl_DropPass_w__o_impl_VolumeFault_w (N : Nat) (G_slices_Delete_KeySlot_w : ∀ {R : Type} (b : Bool) (n : Int) (n1 : Int) (l : List Go.Sa.KeySlot) (k : Option R) (k_1 : Nat → Nat → (List Go.Sa.KeySlot) → Option R), Option R) (G_slices_Clone_KeySlot_r : ∀ {R : Type} (b : Bool) (l : List Go.Sa.KeySlot) (k : Bool → (List Go.Sa.KeySlot) → Option R), Option R) (G_impl_yin : ∀ {R : Type} (n : Int) (n1 : Int) (n2 : Int) (k : Bool → Option R), Option R) (G_impl_VolumeFault_w : ∀ {R : Type} (b : Bool) (s : ByteArray) (l : List Go.Sa.KeySlot) (k : Int → Option R), Option R) {R : Type} (args : List AV) (H : Hp E) (K : AV → Hp E → Option R) : Option R :=
  match args, H with
  | [(Go.Eng.AV.agg [(Go.Eng.SV.slc 0 Option.none b), (Go.Eng.SV.str s)])], [(Option.some (Go.Eng.HE.mk Bool.false (Go.Eng.HB.rows (Go.Sa.B.iKeySlot l))))] => G_impl_VolumeFault_w b s l (fun n => K (Go.Eng.AV.sc (Go.Eng.SV.int Go.IntKind.i64 n)) [(Option.some (Go.Eng.HE.mk Bool.false (Go.Eng.HB.rows (Go.Sa.B.iKeySlot l))))])
  | _, _ => none
noncomputable def OA_impl_DropPass_w (N : Nat) (G_slices_Delete_KeySlot_w : ∀ {R : Type} (b : Bool) (n : Int) (n1 : Int) (l : List Go.Sa.KeySlot) (k : Option R) (k_1 : Nat → Nat → (List Go.Sa.KeySlot) → Option R), Option R) (G_slices_Clone_KeySlot_r : ∀ {R : Type} (b : Bool) (l : List Go.Sa.KeySlot) (k : Bool → (List Go.Sa.KeySlot) → Option R), Option R) (G_impl_yin : ∀ {R : Type} (n : Int) (n1 : Int) (n2 : Int) (k : Bool → Option R), Option R) (G_impl_VolumeFault_w : ∀ {R : Type} (b : Bool) (s : ByteArray) (l : List Go.Sa.KeySlot) (k : Int → Option R), Option R) : Orc E := addFn 102 (pa_impl_DropPass_w__o_slices_Delete_KeySlot_w N G_slices_Delete_KeySlot_w G_slices_Clone_KeySlot_r G_impl_yin G_impl_VolumeFault_w) (addFn 101 (pa_impl_DropPass_w__o_slices_Clone_KeySlot_r N G_slices_Delete_KeySlot_w G_slices_Clone_KeySlot_r G_impl_yin G_impl_VolumeFault_w) (addFn 77 (pa_impl_DropPass_w__o_impl_yin N G_slices_Delete_KeySlot_w G_slices_Clone_KeySlot_r G_impl_yin G_impl_VolumeFault_w) (addFn 86 (pa_impl_DropPass_w__o_impl_VolumeFault_w N G_slices_Delete_KeySlot_w G_slices_Clone_KeySlot_r G_impl_yin G_impl_VolumeFault_w) (noFn))))
theorem O_impl_DropPass_w_ok (N : Nat) : OrcOk (O_impl_DropPass_w N) := addFn_ok (o_slices_Delete_KeySlot_w_ok N) (addFn_ok (o_slices_Clone_KeySlot_r_ok N) (addFn_ok (o_impl_yin_ok N) (addFn_ok (o_impl_VolumeFault_w_ok N) (noFn_ok))))
def g_impl_DropPass_w (N : Nat) {R : Type} (b : Bool) (s : ByteArray) (n : Int) (l : List Go.Sa.KeySlot) (k : Int → Bool → ByteArray → (List Go.Sa.KeySlot) → Option R) (k_1 : Nat → Nat → Bool → (List Go.Sa.KeySlot) → Option R) : Option R :=
  (g_impl_VolumeFault_w N b s l fun n1 =>
  (cond (n1 != (0 : Int))
  (k (1 : Int) Bool.true (ByteArray.mk (List.toArray [])) [])
  (g_impl_yin N n (0 : Int) (Go.IntKind.wrap Go.IntKind.i64 ((((List.length l) : Nat) : Int) - (1 : Int))) fun b1 =>
    (cond (!b1)
    (k (5 : Int) Bool.true (ByteArray.mk (List.toArray [])) [])
    (cond ((((List.length l) : Nat) : Int) == (1 : Int))
      (k (6 : Int) Bool.true (ByteArray.mk (List.toArray [])) [])
      (g_slices_Clone_KeySlot_r N b l fun b2 l1 =>
        (g_slices_Delete_KeySlot_w N b2 n (Go.IntKind.wrap Go.IntKind.i64 (n + (1 : Int))) l1 (
        (k (0 : Int) b2 s l1)) (fun m m1 l2 =>
        (k_1 m m1 b2 l2)))))))))
def ga_g_impl_DropPass_w (N : Nat) (G_slices_Delete_KeySlot_w : ∀ {R : Type} (b : Bool) (n : Int) (n1 : Int) (l : List Go.Sa.KeySlot) (k : Option R) (k_1 : Nat → Nat → (List Go.Sa.KeySlot) → Option R), Option R) (G_slices_Clone_KeySlot_r : ∀ {R : Type} (b : Bool) (l : List Go.Sa.KeySlot) (k : Bool → (List Go.Sa.KeySlot) → Option R), Option R) (G_impl_yin : ∀ {R : Type} (n : Int) (n1 : Int) (n2 : Int) (k : Bool → Option R), Option R) (G_impl_VolumeFault_w : ∀ {R : Type} (b : Bool) (s : ByteArray) (l : List Go.Sa.KeySlot) (k : Int → Option R), Option R) {R : Type} (b : Bool) (s : ByteArray) (n : Int) (l : List Go.Sa.KeySlot) (k : Int → Bool → ByteArray → (List Go.Sa.KeySlot) → Option R) (k_1 : Nat → Nat → Bool → (List Go.Sa.KeySlot) → Option R) : Option R :=
  (G_impl_VolumeFault_w b s l fun n1 =>
  (cond (n1 != (0 : Int))
  (k (1 : Int) Bool.true (ByteArray.mk (List.toArray [])) [])
  (G_impl_yin n (0 : Int) (Go.IntKind.wrap Go.IntKind.i64 ((((List.length l) : Nat) : Int) - (1 : Int))) fun b1 =>
    (cond (!b1)
    (k (5 : Int) Bool.true (ByteArray.mk (List.toArray [])) [])
    (cond ((((List.length l) : Nat) : Int) == (1 : Int))
      (k (6 : Int) Bool.true (ByteArray.mk (List.toArray [])) [])
      (G_slices_Clone_KeySlot_r b l fun b2 l1 =>
        (G_slices_Delete_KeySlot_w b2 n (Go.IntKind.wrap Go.IntKind.i64 (n + (1 : Int))) l1 (
        (k (0 : Int) b2 s l1)) (fun m m1 l2 =>
        (k_1 m m1 b2 l2)))))))))
theorem ea_e_impl_DropPass_w (N : Nat) (G_slices_Delete_KeySlot_w : ∀ {R : Type} (b : Bool) (n : Int) (n1 : Int) (l : List Go.Sa.KeySlot) (k : Option R) (k_1 : Nat → Nat → (List Go.Sa.KeySlot) → Option R), Option R) (G_slices_Clone_KeySlot_r : ∀ {R : Type} (b : Bool) (l : List Go.Sa.KeySlot) (k : Bool → (List Go.Sa.KeySlot) → Option R), Option R) (G_impl_yin : ∀ {R : Type} (n : Int) (n1 : Int) (n2 : Int) (k : Bool → Option R), Option R) (G_impl_VolumeFault_w : ∀ {R : Type} (b : Bool) (s : ByteArray) (l : List Go.Sa.KeySlot) (k : Int → Option R), Option R) {R : Type} (b : Bool) (s : ByteArray) (n : Int) (l : List Go.Sa.KeySlot) (K : AV → Hp E → Option R) :
    runFnI (E := E) (OA_impl_DropPass_w N G_slices_Delete_KeySlot_w G_slices_Clone_KeySlot_r G_impl_yin G_impl_VolumeFault_w) (noIt) sl_impl_DropPass_w J_impl_DropPass_w Go.Proofs.Try.f51 [(Go.Eng.AV.agg [(Go.Eng.SV.slc 0 Option.none b), (Go.Eng.SV.str s)]), (Go.Eng.AV.sc (Go.Eng.SV.int Go.IntKind.i64 n))] [(Option.some (Go.Eng.HE.mk Bool.false (Go.Eng.HB.rows (Go.Sa.B.iKeySlot l))))] K =
      ga_g_impl_DropPass_w N G_slices_Delete_KeySlot_w G_slices_Clone_KeySlot_r G_impl_yin G_impl_VolumeFault_w b s n l (fun n2 b3 s1 l3 => K (Go.Eng.AV.agg [(Go.Eng.SV.int Go.IntKind.i64 n2), (Go.Eng.SV.slc 1 Option.none b3), (Go.Eng.SV.str s1)]) [(Option.some (Go.Eng.HE.mk Bool.false (Go.Eng.HB.rows (Go.Sa.B.iKeySlot l)))), (Option.some (Go.Eng.HE.mk Bool.false (Go.Eng.HB.rows (Go.Sa.B.iKeySlot l3))))]) (fun m2 m3 b4 l4 => K (Go.Eng.AV.agg [(Go.Eng.SV.int Go.IntKind.i64 (0 : Int)), (Go.Eng.SV.slc 1 (Option.some (0, (m2, m3))) b4), (Go.Eng.SV.str s)]) [(Option.some (Go.Eng.HE.mk Bool.false (Go.Eng.HB.rows (Go.Sa.B.iKeySlot l)))), (Option.some (Go.Eng.HE.mk Bool.false (Go.Eng.HB.rows (Go.Sa.B.iKeySlot l4))))]) := by kernel_rfl
theorem e_impl_DropPass_w (N : Nat) {R : Type} (b : Bool) (s : ByteArray) (n : Int) (l : List Go.Sa.KeySlot) (K : AV → Hp E → Option R) :
    runFnI (E := E) (O_impl_DropPass_w N) (noIt) sl_impl_DropPass_w J_impl_DropPass_w Go.Proofs.Try.f51 [(Go.Eng.AV.agg [(Go.Eng.SV.slc 0 Option.none b), (Go.Eng.SV.str s)]), (Go.Eng.AV.sc (Go.Eng.SV.int Go.IntKind.i64 n))] [(Option.some (Go.Eng.HE.mk Bool.false (Go.Eng.HB.rows (Go.Sa.B.iKeySlot l))))] K =
      g_impl_DropPass_w N b s n l (fun n2 b3 s1 l3 => K (Go.Eng.AV.agg [(Go.Eng.SV.int Go.IntKind.i64 n2), (Go.Eng.SV.slc 1 Option.none b3), (Go.Eng.SV.str s1)]) [(Option.some (Go.Eng.HE.mk Bool.false (Go.Eng.HB.rows (Go.Sa.B.iKeySlot l)))), (Option.some (Go.Eng.HE.mk Bool.false (Go.Eng.HB.rows (Go.Sa.B.iKeySlot l3))))]) (fun m2 m3 b4 l4 => K (Go.Eng.AV.agg [(Go.Eng.SV.int Go.IntKind.i64 (0 : Int)), (Go.Eng.SV.slc 1 (Option.some (0, (m2, m3))) b4), (Go.Eng.SV.str s)]) [(Option.some (Go.Eng.HE.mk Bool.false (Go.Eng.HB.rows (Go.Sa.B.iKeySlot l)))), (Option.some (Go.Eng.HE.mk Bool.false (Go.Eng.HB.rows (Go.Sa.B.iKeySlot l4))))]) := castPr (by kernel_rfl) (ea_e_impl_DropPass_w N (g_slices_Delete_KeySlot_w N) (g_slices_Clone_KeySlot_r N) (g_impl_yin N) (g_impl_VolumeFault_w N) b s n l K)
def o_impl_DropPass_w (N : Nat) {R : Type} (args : List AV) (H : Hp E) (K : AV → Hp E → Option R) : Option R :=
  match args, H with
  | [(Go.Eng.AV.agg [(Go.Eng.SV.slc 0 Option.none b), (Go.Eng.SV.str s)]), (Go.Eng.AV.sc (Go.Eng.SV.int Go.IntKind.i64 n))], [(Option.some (Go.Eng.HE.mk Bool.false (Go.Eng.HB.rows (Go.Sa.B.iKeySlot l))))] => g_impl_DropPass_w N b s n l (fun n2 b3 s1 l3 => K (Go.Eng.AV.agg [(Go.Eng.SV.int Go.IntKind.i64 n2), (Go.Eng.SV.slc 1 Option.none b3), (Go.Eng.SV.str s1)]) [(Option.some (Go.Eng.HE.mk Bool.false (Go.Eng.HB.rows (Go.Sa.B.iKeySlot l)))), (Option.some (Go.Eng.HE.mk Bool.false (Go.Eng.HB.rows (Go.Sa.B.iKeySlot l3))))]) (fun m2 m3 b4 l4 => K (Go.Eng.AV.agg [(Go.Eng.SV.int Go.IntKind.i64 (0 : Int)), (Go.Eng.SV.slc 1 (Option.some (0, (m2, m3))) b4), (Go.Eng.SV.str s)]) [(Option.some (Go.Eng.HE.mk Bool.false (Go.Eng.HB.rows (Go.Sa.B.iKeySlot l)))), (Option.some (Go.Eng.HE.mk Bool.false (Go.Eng.HB.rows (Go.Sa.B.iKeySlot l4))))])
  | _, _ => none
theorem o_impl_DropPass_w_ok (N : Nat) : FnOk E 51 (o_impl_DropPass_w N) := by
  intro R args H K r h
  unfold o_impl_DropPass_w at h
  dsimp only at h
  split at h
  · exact fnB_ok (ids := []) (top := []) ok (O_impl_DropPass_w_ok N) (jn_ok _ _ _) Go.Proofs.Try.func51 (by kernel_rfl) (IT := noIt) (sl := sl_impl_DropPass_w) (J := J_impl_DropPass_w) (K := K) (H := [(Option.some (Go.Eng.HE.mk Bool.false (Go.Eng.HB.rows (Go.Sa.B.iKeySlot _))))]) (noIt_ok) (by kernel_rfl) rfl ((e_impl_DropPass_w N _ _ _ _ K).trans h)
  · cases h
/-! ### loop.example/g00038/laws.FnVolumes -/
def oc_laws_FnVolumes_rr_35 (N : Nat) {R : Type} (args : List AV) (H : Hp E) (K : AV → Hp E → Option R) : Option R :=
  match args, H with
  | [(Go.Eng.AV.agg [(Go.Eng.SV.slc 0 Option.none _), (Go.Eng.SV.str _)]), (Go.Eng.AV.sc (Go.Eng.SV.str _))], [(Option.some (Go.Eng.HE.mk Bool.false (Go.Eng.HB.rows (Go.Sa.B.iKeySlot _))))] => o_spec_OpenVolume_w N args H K
  | [(Go.Eng.AV.agg [(Go.Eng.SV.slc 0 Option.none _), (Go.Eng.SV.str _)]), (Go.Eng.AV.sc (Go.Eng.SV.str _))], [(Option.some (Go.Eng.HE.mk Bool.true (Go.Eng.HB.rows (Go.Sa.B.iKeySlot _))))] => o_spec_OpenVolume_r N args H K
  | _, _ => none
theorem oc_laws_FnVolumes_rr_35_ok (N : Nat) : FnOk E 35 (oc_laws_FnVolumes_rr_35 N) := by
  intro R args H K r h
  unfold oc_laws_FnVolumes_rr_35 at h
  dsimp only at h
  split at h
  · exact o_spec_OpenVolume_w_ok N _ _ _ _ h
  · exact o_spec_OpenVolume_r_ok N _ _ _ _ h
  · cases h
def oc_laws_FnVolumes_rr_37 (N : Nat) {R : Type} (args : List AV) (H : Hp E) (K : AV → Hp E → Option R) : Option R :=
  match args, H with
  | [(Go.Eng.AV.agg [(Go.Eng.SV.slc 0 Option.none _), (Go.Eng.SV.str _)]), (Go.Eng.AV.sc (Go.Eng.SV.str _))], [(Option.some (Go.Eng.HE.mk Bool.true (Go.Eng.HB.rows (Go.Sa.B.iKeySlot _))))] => o_impl_OpenVolume_r N args H K
  | [(Go.Eng.AV.agg [(Go.Eng.SV.slc 0 Option.none _), (Go.Eng.SV.str _)]), (Go.Eng.AV.sc (Go.Eng.SV.str _))], [(Option.some (Go.Eng.HE.mk Bool.false (Go.Eng.HB.rows (Go.Sa.B.iKeySlot _))))] => o_impl_OpenVolume_w N args H K
  | _, _ => none
theorem oc_laws_FnVolumes_rr_37_ok (N : Nat) : FnOk E 37 (oc_laws_FnVolumes_rr_37 N) := by
  intro R args H K r h
  unfold oc_laws_FnVolumes_rr_37 at h
  dsimp only at h
  split at h
  · exact o_impl_OpenVolume_r_ok N _ _ _ _ h
  · exact o_impl_OpenVolume_w_ok N _ _ _ _ h
  · cases h
abbrev sl_laws_FnVolumes_rr : SlotT := []
abbrev J_laws_FnVolumes_rr : JT := jn [(1, [(24, .b)]), (8, [(60, .b)]), (15, [(113, .b)]), (20, [(4, .b)])] [] []
noncomputable def O_laws_FnVolumes_rr (N : Nat) : Orc E := addFn 51 (o_impl_DropPass_w N) (addFn 50 (o_impl_AddPass_w N) (addFn 37 (oc_laws_FnVolumes_rr_37 N) (addFn 35 (oc_laws_FnVolumes_rr_35 N) (addFn 29 (o_spec_MakeVolume N) (addFn 30 (o_impl_MakeVolume N) (addFn 49 (o_spec_DrawOpenVolume_r N) (addFn 48 (o_spec_DrawMakeVolume_r N) (noFn))))))))
def pa_laws_FnVolumes_rr__o_impl_DropPass_w (N : Nat) (G_impl_DropPass_w : ∀ {R : Type} (b : Bool) (s : ByteArray) (n : Int) (l : List Go.Sa.KeySlot) (k : Int → Bool → ByteArray → (List Go.Sa.KeySlot) → Option R) (k_1 : Nat → Nat → Bool → (List Go.Sa.KeySlot) → Option R), Option R) (G_impl_AddPass_w : ∀ {R : Type} (b : Bool) (s : ByteArray) (s1 : ByteArray) (s2 : ByteArray) (n : Int) (l : List Go.Sa.KeySlot) (k : Int → Bool → ByteArray → (List Go.Sa.KeySlot) → Option R), Option R) (G_impl_OpenVolume_r : ∀ {R : Type} (b : Bool) (s : ByteArray) (s1 : ByteArray) (l : List Go.Sa.KeySlot) (k : Int → ByteArray → Option R), Option R) (G_impl_OpenVolume_w : ∀ {R : Type} (b : Bool) (s : ByteArray) (s1 : ByteArray) (l : List Go.Sa.KeySlot) (k : Int → ByteArray → Option R), Option R) (G_spec_OpenVolume_w : ∀ {R : Type} (b : Bool) (s : ByteArray) (s1 : ByteArray) (l : List Go.Sa.KeySlot) (k : Int → ByteArray → Option R), Option R) (G_spec_OpenVolume_r : ∀ {R : Type} (b : Bool) (s : ByteArray) (s1 : ByteArray) (l : List Go.Sa.KeySlot) (k : Int → ByteArray → Option R), Option R) (G_spec_MakeVolume : ∀ {R : Type} (s : ByteArray) (s1 : ByteArray) (n : Int) (k : Int → Bool → ByteArray → (List Go.Sa.KeySlot) → Option R), Option R) (G_impl_MakeVolume : ∀ {R : Type} (s : ByteArray) (s1 : ByteArray) (n : Int) (k : Int → Bool → ByteArray → (List Go.Sa.KeySlot) → Option R), Option R) (G_spec_DrawOpenVolume_r : ∀ {R : Type} (b : Bool) (l : List Int) (k : Bool → ByteArray → ByteArray → (List Go.Sa.KeySlot) → Option R), Option R) (G_spec_DrawMakeVolume_r : ∀ {R : Type} (b : Bool) (l : List Int) (k : ByteArray → ByteArray → Int → Option R), Option R) {R : Type} (args : List AV) (H : Hp E) (K : AV → Hp E → Option R) : Option R :=
  match args, H with
  | [(Go.Eng.AV.agg [(Go.Eng.SV.slc 0 Option.none b), (Go.Eng.SV.str s)]), (Go.Eng.AV.sc (Go.Eng.SV.int Go.IntKind.i64 n))], [(Option.some (Go.Eng.HE.mk Bool.false (Go.Eng.HB.rows (Go.Sa.B.iKeySlot l))))] => G_impl_DropPass_w b s n l (fun n2 b3 s1 l3 => K (Go.Eng.AV.agg [(Go.Eng.SV.int Go.IntKind.i64 n2), (Go.Eng.SV.slc 1 Option.none b3), (Go.Eng.SV.str s1)]) [(Option.some (Go.Eng.HE.mk Bool.false (Go.Eng.HB.rows (Go.Sa.B.iKeySlot l)))), (Option.some (Go.Eng.HE.mk Bool.false (Go.Eng.HB.rows (Go.Sa.B.iKeySlot l3))))]) (fun m2 m3 b4 l4 => K (Go.Eng.AV.agg [(Go.Eng.SV.int Go.IntKind.i64 (0 : Int)), (Go.Eng.SV.slc 1 (Option.some (0, (m2, m3))) b4), (Go.Eng.SV.str s)]) [(Option.some (Go.Eng.HE.mk Bool.false (Go.Eng.HB.rows (Go.Sa.B.iKeySlot l)))), (Option.some (Go.Eng.HE.mk Bool.false (Go.Eng.HB.rows (Go.Sa.B.iKeySlot l4))))])
  | _, _ => none
def pa_laws_FnVolumes_rr__o_impl_AddPass_w (N : Nat) (G_impl_DropPass_w : ∀ {R : Type} (b : Bool) (s : ByteArray) (n : Int) (l : List Go.Sa.KeySlot) (k : Int → Bool → ByteArray → (List Go.Sa.KeySlot) → Option R) (k_1 : Nat → Nat → Bool → (List Go.Sa.KeySlot) → Option R), Option R) (G_impl_AddPass_w : ∀ {R : Type} (b : Bool) (s : ByteArray) (s1 : ByteArray) (s2 : ByteArray) (n : Int) (l : List Go.Sa.KeySlot) (k : Int → Bool → ByteArray → (List Go.Sa.KeySlot) → Option R), Option R) (G_impl_OpenVolume_r : ∀ {R : Type} (b : Bool) (s : ByteArray) (s1 : ByteArray) (l : List Go.Sa.KeySlot) (k : Int → ByteArray → Option R), Option R) (G_impl_OpenVolume_w : ∀ {R : Type} (b : Bool) (s : ByteArray) (s1 : ByteArray) (l : List Go.Sa.KeySlot) (k : Int → ByteArray → Option R), Option R) (G_spec_OpenVolume_w : ∀ {R : Type} (b : Bool) (s : ByteArray) (s1 : ByteArray) (l : List Go.Sa.KeySlot) (k : Int → ByteArray → Option R), Option R) (G_spec_OpenVolume_r : ∀ {R : Type} (b : Bool) (s : ByteArray) (s1 : ByteArray) (l : List Go.Sa.KeySlot) (k : Int → ByteArray → Option R), Option R) (G_spec_MakeVolume : ∀ {R : Type} (s : ByteArray) (s1 : ByteArray) (n : Int) (k : Int → Bool → ByteArray → (List Go.Sa.KeySlot) → Option R), Option R) (G_impl_MakeVolume : ∀ {R : Type} (s : ByteArray) (s1 : ByteArray) (n : Int) (k : Int → Bool → ByteArray → (List Go.Sa.KeySlot) → Option R), Option R) (G_spec_DrawOpenVolume_r : ∀ {R : Type} (b : Bool) (l : List Int) (k : Bool → ByteArray → ByteArray → (List Go.Sa.KeySlot) → Option R), Option R) (G_spec_DrawMakeVolume_r : ∀ {R : Type} (b : Bool) (l : List Int) (k : ByteArray → ByteArray → Int → Option R), Option R) {R : Type} (args : List AV) (H : Hp E) (K : AV → Hp E → Option R) : Option R :=
  match args, H with
  | [(Go.Eng.AV.agg [(Go.Eng.SV.slc 0 Option.none b), (Go.Eng.SV.str s)]), (Go.Eng.AV.sc (Go.Eng.SV.str s1)), (Go.Eng.AV.sc (Go.Eng.SV.str s2)), (Go.Eng.AV.sc (Go.Eng.SV.int Go.IntKind.i64 n))], [(Option.some (Go.Eng.HE.mk Bool.false (Go.Eng.HB.rows (Go.Sa.B.iKeySlot l))))] => G_impl_AddPass_w b s s1 s2 n l (fun n2 b5 s6 l2 => K (Go.Eng.AV.agg [(Go.Eng.SV.int Go.IntKind.i64 n2), (Go.Eng.SV.slc 1 Option.none b5), (Go.Eng.SV.str s6)]) [(Option.some (Go.Eng.HE.mk Bool.false (Go.Eng.HB.rows (Go.Sa.B.iKeySlot l)))), (Option.some (Go.Eng.HE.mk Bool.false (Go.Eng.HB.rows (Go.Sa.B.iKeySlot l2))))])
  | _, _ => none
def pa_laws_FnVolumes_rr__o_impl_OpenVolume_r (N : Nat) (G_impl_DropPass_w : ∀ {R : Type} (b : Bool) (s : ByteArray) (n : Int) (l : List Go.Sa.KeySlot) (k : Int → Bool → ByteArray → (List Go.Sa.KeySlot) → Option R) (k_1 : Nat → Nat → Bool → (List Go.Sa.KeySlot) → Option R), Option R) (G_impl_AddPass_w : ∀ {R : Type} (b : Bool) (s : ByteArray) (s1 : ByteArray) (s2 : ByteArray) (n : Int) (l : List Go.Sa.KeySlot) (k : Int → Bool → ByteArray → (List Go.Sa.KeySlot) → Option R), Option R) (G_impl_OpenVolume_r : ∀ {R : Type} (b : Bool) (s : ByteArray) (s1 : ByteArray) (l : List Go.Sa.KeySlot) (k : Int → ByteArray → Option R), Option R) (G_impl_OpenVolume_w : ∀ {R : Type} (b : Bool) (s : ByteArray) (s1 : ByteArray) (l : List Go.Sa.KeySlot) (k : Int → ByteArray → Option R), Option R) (G_spec_OpenVolume_w : ∀ {R : Type} (b : Bool) (s : ByteArray) (s1 : ByteArray) (l : List Go.Sa.KeySlot) (k : Int → ByteArray → Option R), Option R) (G_spec_OpenVolume_r : ∀ {R : Type} (b : Bool) (s : ByteArray) (s1 : ByteArray) (l : List Go.Sa.KeySlot) (k : Int → ByteArray → Option R), Option R) (G_spec_MakeVolume : ∀ {R : Type} (s : ByteArray) (s1 : ByteArray) (n : Int) (k : Int → Bool → ByteArray → (List Go.Sa.KeySlot) → Option R), Option R) (G_impl_MakeVolume : ∀ {R : Type} (s : ByteArray) (s1 : ByteArray) (n : Int) (k : Int → Bool → ByteArray → (List Go.Sa.KeySlot) → Option R), Option R) (G_spec_DrawOpenVolume_r : ∀ {R : Type} (b : Bool) (l : List Int) (k : Bool → ByteArray → ByteArray → (List Go.Sa.KeySlot) → Option R), Option R) (G_spec_DrawMakeVolume_r : ∀ {R : Type} (b : Bool) (l : List Int) (k : ByteArray → ByteArray → Int → Option R), Option R) {R : Type} (args : List AV) (H : Hp E) (K : AV → Hp E → Option R) : Option R :=
  match args, H with
  | [(Go.Eng.AV.agg [(Go.Eng.SV.slc 0 Option.none b), (Go.Eng.SV.str s)]), (Go.Eng.AV.sc (Go.Eng.SV.str s1))], [(Option.some (Go.Eng.HE.mk Bool.true (Go.Eng.HB.rows (Go.Sa.B.iKeySlot l))))] => G_impl_OpenVolume_r b s s1 l (fun n1 s3 => K (Go.Eng.AV.agg [(Go.Eng.SV.int Go.IntKind.i64 n1), (Go.Eng.SV.str s3)]) [(Option.some (Go.Eng.HE.mk Bool.true (Go.Eng.HB.rows (Go.Sa.B.iKeySlot l))))])
  | _, _ => none
def pa_laws_FnVolumes_rr__o_impl_OpenVolume_w (N : Nat) (G_impl_DropPass_w : ∀ {R : Type} (b : Bool) (s : ByteArray) (n : Int) (l : List Go.Sa.KeySlot) (k : Int → Bool → ByteArray → (List Go.Sa.KeySlot) → Option R) (k_1 : Nat → Nat → Bool → (List Go.Sa.KeySlot) → Option R), Option R) (G_impl_AddPass_w : ∀ {R : Type} (b : Bool) (s : ByteArray) (s1 : ByteArray) (s2 : ByteArray) (n : Int) (l : List Go.Sa.KeySlot) (k : Int → Bool → ByteArray → (List Go.Sa.KeySlot) → Option R), Option R) (G_impl_OpenVolume_r : ∀ {R : Type} (b : Bool) (s : ByteArray) (s1 : ByteArray) (l : List Go.Sa.KeySlot) (k : Int → ByteArray → Option R), Option R) (G_impl_OpenVolume_w : ∀ {R : Type} (b : Bool) (s : ByteArray) (s1 : ByteArray) (l : List Go.Sa.KeySlot) (k : Int → ByteArray → Option R), Option R) (G_spec_OpenVolume_w : ∀ {R : Type} (b : Bool) (s : ByteArray) (s1 : ByteArray) (l : List Go.Sa.KeySlot) (k : Int → ByteArray → Option R), Option R) (G_spec_OpenVolume_r : ∀ {R : Type} (b : Bool) (s : ByteArray) (s1 : ByteArray) (l : List Go.Sa.KeySlot) (k : Int → ByteArray → Option R), Option R) (G_spec_MakeVolume : ∀ {R : Type} (s : ByteArray) (s1 : ByteArray) (n : Int) (k : Int → Bool → ByteArray → (List Go.Sa.KeySlot) → Option R), Option R) (G_impl_MakeVolume : ∀ {R : Type} (s : ByteArray) (s1 : ByteArray) (n : Int) (k : Int → Bool → ByteArray → (List Go.Sa.KeySlot) → Option R), Option R) (G_spec_DrawOpenVolume_r : ∀ {R : Type} (b : Bool) (l : List Int) (k : Bool → ByteArray → ByteArray → (List Go.Sa.KeySlot) → Option R), Option R) (G_spec_DrawMakeVolume_r : ∀ {R : Type} (b : Bool) (l : List Int) (k : ByteArray → ByteArray → Int → Option R), Option R) {R : Type} (args : List AV) (H : Hp E) (K : AV → Hp E → Option R) : Option R :=
  match args, H with
  | [(Go.Eng.AV.agg [(Go.Eng.SV.slc 0 Option.none b), (Go.Eng.SV.str s)]), (Go.Eng.AV.sc (Go.Eng.SV.str s1))], [(Option.some (Go.Eng.HE.mk Bool.false (Go.Eng.HB.rows (Go.Sa.B.iKeySlot l))))] => G_impl_OpenVolume_w b s s1 l (fun n1 s3 => K (Go.Eng.AV.agg [(Go.Eng.SV.int Go.IntKind.i64 n1), (Go.Eng.SV.str s3)]) [(Option.some (Go.Eng.HE.mk Bool.false (Go.Eng.HB.rows (Go.Sa.B.iKeySlot l))))])
  | _, _ => none
def pa_laws_FnVolumes_rr__oc_laws_FnVolumes_rr_37 (N : Nat) (G_impl_DropPass_w : ∀ {R : Type} (b : Bool) (s : ByteArray) (n : Int) (l : List Go.Sa.KeySlot) (k : Int → Bool → ByteArray → (List Go.Sa.KeySlot) → Option R) (k_1 : Nat → Nat → Bool → (List Go.Sa.KeySlot) → Option R), Option R) (G_impl_AddPass_w : ∀ {R : Type} (b : Bool) (s : ByteArray) (s1 : ByteArray) (s2 : ByteArray) (n : Int) (l : List Go.Sa.KeySlot) (k : Int → Bool → ByteArray → (List Go.Sa.KeySlot) → Option R), Option R) (G_impl_OpenVolume_r : ∀ {R : Type} (b : Bool) (s : ByteArray) (s1 : ByteArray) (l : List Go.Sa.KeySlot) (k : Int → ByteArray → Option R), Option R) (G_impl_OpenVolume_w : ∀ {R : Type} (b : Bool) (s : ByteArray) (s1 : ByteArray) (l : List Go.Sa.KeySlot) (k : Int → ByteArray → Option R), Option R) (G_spec_OpenVolume_w : ∀ {R : Type} (b : Bool) (s : ByteArray) (s1 : ByteArray) (l : List Go.Sa.KeySlot) (k : Int → ByteArray → Option R), Option R) (G_spec_OpenVolume_r : ∀ {R : Type} (b : Bool) (s : ByteArray) (s1 : ByteArray) (l : List Go.Sa.KeySlot) (k : Int → ByteArray → Option R), Option R) (G_spec_MakeVolume : ∀ {R : Type} (s : ByteArray) (s1 : ByteArray) (n : Int) (k : Int → Bool → ByteArray → (List Go.Sa.KeySlot) → Option R), Option R) (G_impl_MakeVolume : ∀ {R : Type} (s : ByteArray) (s1 : ByteArray) (n : Int) (k : Int → Bool → ByteArray → (List Go.Sa.KeySlot) → Option R), Option R) (G_spec_DrawOpenVolume_r : ∀ {R : Type} (b : Bool) (l : List Int) (k : Bool → ByteArray → ByteArray → (List Go.Sa.KeySlot) → Option R), Option R) (G_spec_DrawMakeVolume_r : ∀ {R : Type} (b : Bool) (l : List Int) (k : ByteArray → ByteArray → Int → Option R), Option R) {R : Type} (args : List AV) (H : Hp E) (K : AV → Hp E → Option R) : Option R :=
  match args, H with
  | [(Go.Eng.AV.agg [(Go.Eng.SV.slc 0 Option.none _), (Go.Eng.SV.str _)]), (Go.Eng.AV.sc (Go.Eng.SV.str _))], [(Option.some (Go.Eng.HE.mk Bool.true (Go.Eng.HB.rows (Go.Sa.B.iKeySlot _))))] => pa_laws_FnVolumes_rr__o_impl_OpenVolume_r N G_impl_DropPass_w G_impl_AddPass_w G_impl_OpenVolume_r G_impl_OpenVolume_w G_spec_OpenVolume_w G_spec_OpenVolume_r G_spec_MakeVolume G_impl_MakeVolume G_spec_DrawOpenVolume_r G_spec_DrawMakeVolume_r args H K
  | [(Go.Eng.AV.agg [(Go.Eng.SV.slc 0 Option.none _), (Go.Eng.SV.str _)]), (Go.Eng.AV.sc (Go.Eng.SV.str _))], [(Option.some (Go.Eng.HE.mk Bool.false (Go.Eng.HB.rows (Go.Sa.B.iKeySlot _))))] => pa_laws_FnVolumes_rr__o_impl_OpenVolume_w N G_impl_DropPass_w G_impl_AddPass_w G_impl_OpenVolume_r G_impl_OpenVolume_w G_spec_OpenVolume_w G_spec_OpenVolume_r G_spec_MakeVolume G_impl_MakeVolume G_spec_DrawOpenVolume_r G_spec_DrawMakeVolume_r args H K
  | _, _ => none
def pa_laws_FnVolumes_rr__o_spec_OpenVolume_w (N : Nat) (G_impl_DropPass_w : ∀ {R : Type} (b : Bool) (s : ByteArray) (n : Int) (l : List Go.Sa.KeySlot) (k : Int → Bool → ByteArray → (List Go.Sa.KeySlot) → Option R) (k_1 : Nat → Nat → Bool → (List Go.Sa.KeySlot) → Option R), Option R) (G_impl_AddPass_w : ∀ {R : Type} (b : Bool) (s : ByteArray) (s1 : ByteArray) (s2 : ByteArray) (n : Int) (l : List Go.Sa.KeySlot) (k : Int → Bool → ByteArray → (List Go.Sa.KeySlot) → Option R), Option R) (G_impl_OpenVolume_r : ∀ {R : Type} (b : Bool) (s : ByteArray) (s1 : ByteArray) (l : List Go.Sa.KeySlot) (k : Int → ByteArray → Option R), Option R) (G_impl_OpenVolume_w : ∀ {R : Type} (b : Bool) (s : ByteArray) (s1 : ByteArray) (l : List Go.Sa.KeySlot) (k : Int → ByteArray → Option R), Option R) (G_spec_OpenVolume_w : ∀ {R : Type} (b : Bool) (s : ByteArray) (s1 : ByteArray) (l : List Go.Sa.KeySlot) (k : Int → ByteArray → Option R), Option R) (G_spec_OpenVolume_r : ∀ {R : Type} (b : Bool) (s : ByteArray) (s1 : ByteArray) (l : List Go.Sa.KeySlot) (k : Int → ByteArray → Option R), Option R) (G_spec_MakeVolume : ∀ {R : Type} (s : ByteArray) (s1 : ByteArray) (n : Int) (k : Int → Bool → ByteArray → (List Go.Sa.KeySlot) → Option R), Option R) (G_impl_MakeVolume : ∀ {R : Type} (s : ByteArray) (s1 : ByteArray) (n : Int) (k : Int → Bool → ByteArray → (List Go.Sa.KeySlot) → Option R), Option R) (G_spec_DrawOpenVolume_r : ∀ {R : Type} (b : Bool) (l : List Int) (k : Bool → ByteArray → ByteArray → (List Go.Sa.KeySlot) → Option R), Option R) (G_spec_DrawMakeVolume_r : ∀ {R : Type} (b : Bool) (l : List Int) (k : ByteArray → ByteArray → Int → Option R), Option R) {R : Type} (args : List AV) (H : Hp E) (K : AV → Hp E → Option R) : Option R :=
  match args, H with
  | [(Go.Eng.AV.agg [(Go.Eng.SV.slc 0 Option.none b), (Go.Eng.SV.str s)]), (Go.Eng.AV.sc (Go.Eng.SV.str s1))], [(Option.some (Go.Eng.HE.mk Bool.false (Go.Eng.HB.rows (Go.Sa.B.iKeySlot l))))] => G_spec_OpenVolume_w b s s1 l (fun n3 s9 => K (Go.Eng.AV.agg [(Go.Eng.SV.int Go.IntKind.i64 n3), (Go.Eng.SV.str s9)]) [(Option.some (Go.Eng.HE.mk Bool.false (Go.Eng.HB.rows (Go.Sa.B.iKeySlot l))))])
  | _, _ => none
def pa_laws_FnVolumes_rr__o_spec_OpenVolume_r (N : Nat) (G_impl_DropPass_w : ∀ {R : Type} (b : Bool) (s : ByteArray) (n : Int) (l : List Go.Sa.KeySlot) (k : Int → Bool → ByteArray → (List Go.Sa.KeySlot) → Option R) (k_1 : Nat → Nat → Bool → (List Go.Sa.KeySlot) → Option R), Option R) (G_impl_AddPass_w : ∀ {R : Type} (b : Bool) (s : ByteArray) (s1 : ByteArray) (s2 : ByteArray) (n : Int) (l : List Go.Sa.KeySlot) (k : Int → Bool → ByteArray → (List Go.Sa.KeySlot) → Option R), Option R) (G_impl_OpenVolume_r : ∀ {R : Type} (b : Bool) (s : ByteArray) (s1 : ByteArray) (l : List Go.Sa.KeySlot) (k : Int → ByteArray → Option R), Option R) (G_impl_OpenVolume_w : ∀ {R : Type} (b : Bool) (s : ByteArray) (s1 : ByteArray) (l : List Go.Sa.KeySlot) (k : Int → ByteArray → Option R), Option R) (G_spec_OpenVolume_w : ∀ {R : Type} (b : Bool) (s : ByteArray) (s1 : ByteArray) (l : List Go.Sa.KeySlot) (k : Int → ByteArray → Option R), Option R) (G_spec_OpenVolume_r : ∀ {R : Type} (b : Bool) (s : ByteArray) (s1 : ByteArray) (l : List Go.Sa.KeySlot) (k : Int → ByteArray → Option R), Option R) (G_spec_MakeVolume : ∀ {R : Type} (s : ByteArray) (s1 : ByteArray) (n : Int) (k : Int → Bool → ByteArray → (List Go.Sa.KeySlot) → Option R), Option R) (G_impl_MakeVolume : ∀ {R : Type} (s : ByteArray) (s1 : ByteArray) (n : Int) (k : Int → Bool → ByteArray → (List Go.Sa.KeySlot) → Option R), Option R) (G_spec_DrawOpenVolume_r : ∀ {R : Type} (b : Bool) (l : List Int) (k : Bool → ByteArray → ByteArray → (List Go.Sa.KeySlot) → Option R), Option R) (G_spec_DrawMakeVolume_r : ∀ {R : Type} (b : Bool) (l : List Int) (k : ByteArray → ByteArray → Int → Option R), Option R) {R : Type} (args : List AV) (H : Hp E) (K : AV → Hp E → Option R) : Option R :=
  match args, H with
  | [(Go.Eng.AV.agg [(Go.Eng.SV.slc 0 Option.none b), (Go.Eng.SV.str s)]), (Go.Eng.AV.sc (Go.Eng.SV.str s1))], [(Option.some (Go.Eng.HE.mk Bool.true (Go.Eng.HB.rows (Go.Sa.B.iKeySlot l))))] => G_spec_OpenVolume_r b s s1 l (fun n3 s9 => K (Go.Eng.AV.agg [(Go.Eng.SV.int Go.IntKind.i64 n3), (Go.Eng.SV.str s9)]) [(Option.some (Go.Eng.HE.mk Bool.true (Go.Eng.HB.rows (Go.Sa.B.iKeySlot l))))])
  | _, _ => none
def pa_laws_FnVolumes_rr__oc_laws_FnVolumes_rr_35 (N : Nat) (G_impl_DropPass_w : ∀ {R : Type} (b : Bool) (s : ByteArray) (n : Int) (l : List Go.Sa.KeySlot) (k : Int → Bool → ByteArray → (List Go.Sa.KeySlot) → Option R) (k_1 : Nat → Nat → Bool → (List Go.Sa.KeySlot) → Option R), Option R) (G_impl_AddPass_w : ∀ {R : Type} (b : Bool) (s : ByteArray) (s1 : ByteArray) (s2 : ByteArray) (n : Int) (l : List Go.Sa.KeySlot) (k : Int → Bool → ByteArray → (List Go.Sa.KeySlot) → Option R), Option R) (G_impl_OpenVolume_r : ∀ {R : Type} (b : Bool) (s : ByteArray) (s1 : ByteArray) (l : List Go.Sa.KeySlot) (k : Int → ByteArray → Option R), Option R) (G_impl_OpenVolume_w : ∀ {R : Type} (b : Bool) (s : ByteArray) (s1 : ByteArray) (l : List Go.Sa.KeySlot) (k : Int → ByteArray → Option R), Option R) (G_spec_OpenVolume_w : ∀ {R : Type} (b : Bool) (s : ByteArray) (s1 : ByteArray) (l : List Go.Sa.KeySlot) (k : Int → ByteArray → Option R), Option R) (G_spec_OpenVolume_r : ∀ {R : Type} (b : Bool) (s : ByteArray) (s1 : ByteArray) (l : List Go.Sa.KeySlot) (k : Int → ByteArray → Option R), Option R) (G_spec_MakeVolume : ∀ {R : Type} (s : ByteArray) (s1 : ByteArray) (n : Int) (k : Int → Bool → ByteArray → (List Go.Sa.KeySlot) → Option R), Option R) (G_impl_MakeVolume : ∀ {R : Type} (s : ByteArray) (s1 : ByteArray) (n : Int) (k : Int → Bool → ByteArray → (List Go.Sa.KeySlot) → Option R), Option R) (G_spec_DrawOpenVolume_r : ∀ {R : Type} (b : Bool) (l : List Int) (k : Bool → ByteArray → ByteArray → (List Go.Sa.KeySlot) → Option R), Option R) (G_spec_DrawMakeVolume_r : ∀ {R : Type} (b : Bool) (l : List Int) (k : ByteArray → ByteArray → Int → Option R), Option R) {R : Type} (args : List AV) (H : Hp E) (K : AV → Hp E → Option R) : Option R :=
  match args, H with
  | [(Go.Eng.AV.agg [(Go.Eng.SV.slc 0 Option.none _), (Go.Eng.SV.str _)]), (Go.Eng.AV.sc (Go.Eng.SV.str _))], [(Option.some (Go.Eng.HE.mk Bool.false (Go.Eng.HB.rows (Go.Sa.B.iKeySlot _))))] => pa_laws_FnVolumes_rr__o_spec_OpenVolume_w N G_impl_DropPass_w G_impl_AddPass_w G_impl_OpenVolume_r G_impl_OpenVolume_w G_spec_OpenVolume_w G_spec_OpenVolume_r G_spec_MakeVolume G_impl_MakeVolume G_spec_DrawOpenVolume_r G_spec_DrawMakeVolume_r args H K
  | [(Go.Eng.AV.agg [(Go.Eng.SV.slc 0 Option.none _), (Go.Eng.SV.str _)]), (Go.Eng.AV.sc (Go.Eng.SV.str _))], [(Option.some (Go.Eng.HE.mk Bool.true (Go.Eng.HB.rows (Go.Sa.B.iKeySlot _))))] => pa_laws_FnVolumes_rr__o_spec_OpenVolume_r N G_impl_DropPass_w G_impl_AddPass_w G_impl_OpenVolume_r G_impl_OpenVolume_w G_spec_OpenVolume_w G_spec_OpenVolume_r G_spec_MakeVolume G_impl_MakeVolume G_spec_DrawOpenVolume_r G_spec_DrawMakeVolume_r args H K
  | _, _ => none
def pa_laws_FnVolumes_rr__o_spec_MakeVolume (N : Nat) (G_impl_DropPass_w : ∀ {R : Type} (b : Bool) (s : ByteArray) (n : Int) (l : List Go.Sa.KeySlot) (k : Int → Bool → ByteArray → (List Go.Sa.KeySlot) → Option R) (k_1 : Nat → Nat → Bool → (List Go.Sa.KeySlot) → Option R), Option R) (G_impl_AddPass_w : ∀ {R : Type} (b : Bool) (s : ByteArray) (s1 : ByteArray) (s2 : ByteArray) (n : Int) (l : List Go.Sa.KeySlot) (k : Int → Bool → ByteArray → (List Go.Sa.KeySlot) → Option R), Option R) (G_impl_OpenVolume_r : ∀ {R : Type} (b : Bool) (s : ByteArray) (s1 : ByteArray) (l : List Go.Sa.KeySlot) (k : Int → ByteArray → Option R), Option R) (G_impl_OpenVolume_w : ∀ {R : Type} (b : Bool) (s : ByteArray) (s1 : ByteArray) (l : List Go.Sa.KeySlot) (k : Int → ByteArray → Option R), Option R) (G_spec_OpenVolume_w : ∀ {R : Type} (b : Bool) (s : ByteArray) (s1 : ByteArray) (l : List Go.Sa.KeySlot) (k : Int → ByteArray → Option R), Option R) (G_spec_OpenVolume_r : ∀ {R : Type} (b : Bool) (s : ByteArray) (s1 : ByteArray) (l : List Go.Sa.KeySlot) (k : Int → ByteArray → Option R), Option R) (G_spec_MakeVolume : ∀ {R : Type} (s : ByteArray) (s1 : ByteArray) (n : Int) (k : Int → Bool → ByteArray → (List Go.Sa.KeySlot) → Option R), Option R) (G_impl_MakeVolume : ∀ {R : Type} (s : ByteArray) (s1 : ByteArray) (n : Int) (k : Int → Bool → ByteArray → (List Go.Sa.KeySlot) → Option R), Option R) (G_spec_DrawOpenVolume_r : ∀ {R : Type} (b : Bool) (l : List Int) (k : Bool → ByteArray → ByteArray → (List Go.Sa.KeySlot) → Option R), Option R) (G_spec_DrawMakeVolume_r : ∀ {R : Type} (b : Bool) (l : List Int) (k : ByteArray → ByteArray → Int → Option R), Option R) {R : Type} (args : List AV) (H : Hp E) (K : AV → Hp E → Option R) : Option R :=
  match args, H with
  | [(Go.Eng.AV.sc (Go.Eng.SV.str s)), (Go.Eng.AV.sc (Go.Eng.SV.str s1)), (Go.Eng.AV.sc (Go.Eng.SV.int Go.IntKind.i64 n))], [] => G_spec_MakeVolume s s1 n (fun n1 b1 s5 l => K (Go.Eng.AV.agg [(Go.Eng.SV.int Go.IntKind.i64 n1), (Go.Eng.SV.slc 0 Option.none b1), (Go.Eng.SV.str s5)]) [(Option.some (Go.Eng.HE.mk Bool.false (Go.Eng.HB.rows (Go.Sa.B.iKeySlot l))))])
  | _, _ => none
def pa_laws_FnVolumes_rr__o_impl_MakeVolume (N : Nat) (G_impl_DropPass_w : ∀ {R : Type} (b : Bool) (s : ByteArray) (n : Int) (l : List Go.Sa.KeySlot) (k : Int → Bool → ByteArray → (List Go.Sa.KeySlot) → Option R) (k_1 : Nat → Nat → Bool → (List Go.Sa.KeySlot) → Option R), Option R) (G_impl_AddPass_w : ∀ {R : Type} (b : Bool) (s : ByteArray) (s1 : ByteArray) (s2 : ByteArray) (n : Int) (l : List Go.Sa.KeySlot) (k : Int → Bool → ByteArray → (List Go.Sa.KeySlot) → Option R), Option R) (G_impl_OpenVolume_r : ∀ {R : Type} (b : Bool) (s : ByteArray) (s1 : ByteArray) (l : List Go.Sa.KeySlot) (k : Int → ByteArray → Option R), Option R) (G_impl_OpenVolume_w : ∀ {R : Type} (b : Bool) (s : ByteArray) (s1 : ByteArray) (l : List Go.Sa.KeySlot) (k : Int → ByteArray → Option R), Option R) (G_spec_OpenVolume_w : ∀ {R : Type} (b : Bool) (s : ByteArray) (s1 : ByteArray) (l : List Go.Sa.KeySlot) (k : Int → ByteArray → Option R), Option R) (G_spec_OpenVolume_r : ∀ {R : Type} (b : Bool) (s : ByteArray) (s1 : ByteArray) (l : List Go.Sa.KeySlot) (k : Int → ByteArray → Option R), Option R) (G_spec_MakeVolume : ∀ {R : Type} (s : ByteArray) (s1 : ByteArray) (n : Int) (k : Int → Bool → ByteArray → (List Go.Sa.KeySlot) → Option R), Option R) (G_impl_MakeVolume : ∀ {R : Type} (s : ByteArray) (s1 : ByteArray) (n : Int) (k : Int → Bool → ByteArray → (List Go.Sa.KeySlot) → Option R), Option R) (G_spec_DrawOpenVolume_r : ∀ {R : Type} (b : Bool) (l : List Int) (k : Bool → ByteArray → ByteArray → (List Go.Sa.KeySlot) → Option R), Option R) (G_spec_DrawMakeVolume_r : ∀ {R : Type} (b : Bool) (l : List Int) (k : ByteArray → ByteArray → Int → Option R), Option R) {R : Type} (args : List AV) (H : Hp E) (K : AV → Hp E → Option R) : Option R :=
  match args, H with
  | [(Go.Eng.AV.sc (Go.Eng.SV.str s)), (Go.Eng.AV.sc (Go.Eng.SV.str s1)), (Go.Eng.AV.sc (Go.Eng.SV.int Go.IntKind.i64 n))], [] => G_impl_MakeVolume s s1 n (fun n1 b2 s5 l => K (Go.Eng.AV.agg [(Go.Eng.SV.int Go.IntKind.i64 n1), (Go.Eng.SV.slc 0 Option.none b2), (Go.Eng.SV.str s5)]) [(Option.some (Go.Eng.HE.mk Bool.false (Go.Eng.HB.rows (Go.Sa.B.iKeySlot l))))])
  | _, _ => none
def pa_laws_FnVolumes_rr__o_spec_DrawOpenVolume_r (N : Nat) (G_impl_DropPass_w : ∀ {R : Type} (b : Bool) (s : ByteArray) (n : Int) (l : List Go.Sa.KeySlot) (k : Int → Bool → ByteArray → (List Go.Sa.KeySlot) → Option R) (k_1 : Nat → Nat → Bool → (List Go.Sa.KeySlot) → Option R), Option R) (G_impl_AddPass_w : ∀ {R : Type} (b : Bool) (s : ByteArray) (s1 : ByteArray) (s2 : ByteArray) (n : Int) (l : List Go.Sa.KeySlot) (k : Int → Bool → ByteArray → (List Go.Sa.KeySlot) → Option R), Option R) (G_impl_OpenVolume_r : ∀ {R : Type} (b : Bool) (s : ByteArray) (s1 : ByteArray) (l : List Go.Sa.KeySlot) (k : Int → ByteArray → Option R), Option R) (G_impl_OpenVolume_w : ∀ {R : Type} (b : Bool) (s : ByteArray) (s1 : ByteArray) (l : List Go.Sa.KeySlot) (k : Int → ByteArray → Option R), Option R) (G_spec_OpenVolume_w : ∀ {R : Type} (b : Bool) (s : ByteArray) (s1 : ByteArray) (l : List Go.Sa.KeySlot) (k : Int → ByteArray → Option R), Option R) (G_spec_OpenVolume_r : ∀ {R : Type} (b : Bool) (s : ByteArray) (s1 : ByteArray) (l : List Go.Sa.KeySlot) (k : Int → ByteArray → Option R), Option R) (G_spec_MakeVolume : ∀ {R : Type} (s : ByteArray) (s1 : ByteArray) (n : Int) (k : Int → Bool → ByteArray → (List Go.Sa.KeySlot) → Option R), Option R) (G_impl_MakeVolume : ∀ {R : Type} (s : ByteArray) (s1 : ByteArray) (n : Int) (k : Int → Bool → ByteArray → (List Go.Sa.KeySlot) → Option R), Option R) (G_spec_DrawOpenVolume_r : ∀ {R : Type} (b : Bool) (l : List Int) (k : Bool → ByteArray → ByteArray → (List Go.Sa.KeySlot) → Option R), Option R) (G_spec_DrawMakeVolume_r : ∀ {R : Type} (b : Bool) (l : List Int) (k : ByteArray → ByteArray → Int → Option R), Option R) {R : Type} (args : List AV) (H : Hp E) (K : AV → Hp E → Option R) : Option R :=
  match args, H with
  | [(Go.Eng.AV.sc (Go.Eng.SV.slc 0 Option.none b))], [(Option.some (Go.Eng.HE.mk Bool.true (Go.Eng.HB.rows (Go.Sa.B.u8 l))))] => G_spec_DrawOpenVolume_r b l (fun b2 s2 s3 l2 => K (Go.Eng.AV.tup [(Bool.true, [(Go.Eng.SV.slc 1 Option.none b2), (Go.Eng.SV.str s2)]), (Bool.false, [(Go.Eng.SV.str s3)])]) [(Option.some (Go.Eng.HE.mk Bool.true (Go.Eng.HB.rows (Go.Sa.B.u8 l)))), (Option.some (Go.Eng.HE.mk Bool.false (Go.Eng.HB.rows (Go.Sa.B.iKeySlot l2))))])
  | _, _ => none
def pa_laws_FnVolumes_rr__o_spec_DrawMakeVolume_r (N : Nat) (G_impl_DropPass_w : ∀ {R : Type} (b : Bool) (s : ByteArray) (n : Int) (l : List Go.Sa.KeySlot) (k : Int → Bool → ByteArray → (List Go.Sa.KeySlot) → Option R) (k_1 : Nat → Nat → Bool → (List Go.Sa.KeySlot) → Option R), Option R) (G_impl_AddPass_w : ∀ {R : Type} (b : Bool) (s : ByteArray) (s1 : ByteArray) (s2 : ByteArray) (n : Int) (l : List Go.Sa.KeySlot) (k : Int → Bool → ByteArray → (List Go.Sa.KeySlot) → Option R), Option R) (G_impl_OpenVolume_r : ∀ {R : Type} (b : Bool) (s : ByteArray) (s1 : ByteArray) (l : List Go.Sa.KeySlot) (k : Int → ByteArray → Option R), Option R) (G_impl_OpenVolume_w : ∀ {R : Type} (b : Bool) (s : ByteArray) (s1 : ByteArray) (l : List Go.Sa.KeySlot) (k : Int → ByteArray → Option R), Option R) (G_spec_OpenVolume_w : ∀ {R : Type} (b : Bool) (s : ByteArray) (s1 : ByteArray) (l : List Go.Sa.KeySlot) (k : Int → ByteArray → Option R), Option R) (G_spec_OpenVolume_r : ∀ {R : Type} (b : Bool) (s : ByteArray) (s1 : ByteArray) (l : List Go.Sa.KeySlot) (k : Int → ByteArray → Option R), Option R) (G_spec_MakeVolume : ∀ {R : Type} (s : ByteArray) (s1 : ByteArray) (n : Int) (k : Int → Bool → ByteArray → (List Go.Sa.KeySlot) → Option R), Option R) (G_impl_MakeVolume : ∀ {R : Type} (s : ByteArray) (s1 : ByteArray) (n : Int) (k : Int → Bool → ByteArray → (List Go.Sa.KeySlot) → Option R), Option R) (G_spec_DrawOpenVolume_r : ∀ {R : Type} (b : Bool) (l : List Int) (k : Bool → ByteArray → ByteArray → (List Go.Sa.KeySlot) → Option R), Option R) (G_spec_DrawMakeVolume_r : ∀ {R : Type} (b : Bool) (l : List Int) (k : ByteArray → ByteArray → Int → Option R), Option R) {R : Type} (args : List AV) (H : Hp E) (K : AV → Hp E → Option R) : Option R :=
  match args, H with
  | [(Go.Eng.AV.sc (Go.Eng.SV.slc 0 Option.none b))], [(Option.some (Go.Eng.HE.mk Bool.true (Go.Eng.HB.rows (Go.Sa.B.u8 l))))] => G_spec_DrawMakeVolume_r b l (fun s2 s3 n15 => K (Go.Eng.AV.tup [(Bool.false, [(Go.Eng.SV.str s2)]), (Bool.false, [(Go.Eng.SV.str s3)]), (Bool.false, [(Go.Eng.SV.int Go.IntKind.i64 n15)])]) [(Option.some (Go.Eng.HE.mk Bool.true (Go.Eng.HB.rows (Go.Sa.B.u8 l))))])
  | _, _ => none
noncomputable def OA_laws_FnVolumes_rr (N : Nat) (G_impl_DropPass_w : ∀ {R : Type} (b : Bool) (s : ByteArray) (n : Int) (l : List Go.Sa.KeySlot) (k : Int → Bool → ByteArray → (List Go.Sa.KeySlot) → Option R) (k_1 : Nat → Nat → Bool → (List Go.Sa.KeySlot) → Option R), Option R) (G_impl_AddPass_w : ∀ {R : Type} (b : Bool) (s : ByteArray) (s1 : ByteArray) (s2 : ByteArray) (n : Int) (l : List Go.Sa.KeySlot) (k : Int → Bool → ByteArray → (List Go.Sa.KeySlot) → Option R), Option R) (G_impl_OpenVolume_r : ∀ {R : Type} (b : Bool) (s : ByteArray) (s1 : ByteArray) (l : List Go.Sa.KeySlot) (k : Int → ByteArray → Option R), Option R) (G_impl_OpenVolume_w : ∀ {R : Type} (b : Bool) (s : ByteArray) (s1 : ByteArray) (l : List Go.Sa.KeySlot) (k : Int → ByteArray → Option R), Option R) (G_spec_OpenVolume_w : ∀ {R : Type} (b : Bool) (s : ByteArray) (s1 : ByteArray) (l : List Go.Sa.KeySlot) (k : Int → ByteArray → Option R), Option R) (G_spec_OpenVolume_r : ∀ {R : Type} (b : Bool) (s : ByteArray) (s1 : ByteArray) (l : List Go.Sa.KeySlot) (k : Int → ByteArray → Option R), Option R) (G_spec_MakeVolume : ∀ {R : Type} (s : ByteArray) (s1 : ByteArray) (n : Int) (k : Int → Bool → ByteArray → (List Go.Sa.KeySlot) → Option R), Option R) (G_impl_MakeVolume : ∀ {R : Type} (s : ByteArray) (s1 : ByteArray) (n : Int) (k : Int → Bool → ByteArray → (List Go.Sa.KeySlot) → Option R), Option R) (G_spec_DrawOpenVolume_r : ∀ {R : Type} (b : Bool) (l : List Int) (k : Bool → ByteArray → ByteArray → (List Go.Sa.KeySlot) → Option R), Option R) (G_spec_DrawMakeVolume_r : ∀ {R : Type} (b : Bool) (l : List Int) (k : ByteArray → ByteArray → Int → Option R), Option R) : Orc E := addFn 51 (pa_laws_FnVolumes_rr__o_impl_DropPass_w N G_impl_DropPass_w G_impl_AddPass_w G_impl_OpenVolume_r G_impl_OpenVolume_w G_spec_OpenVolume_w G_spec_OpenVolume_r G_spec_MakeVolume G_impl_MakeVolume G_spec_DrawOpenVolume_r G_spec_DrawMakeVolume_r) (addFn 50 (pa_laws_FnVolumes_rr__o_impl_AddPass_w N G_impl_DropPass_w G_impl_AddPass_w G_impl_OpenVolume_r G_impl_OpenVolume_w G_spec_OpenVolume_w G_spec_OpenVolume_r G_spec_MakeVolume G_impl_MakeVolume G_spec_DrawOpenVolume_r G_spec_DrawMakeVolume_r) (addFn 37 (pa_laws_FnVolumes_rr__oc_laws_FnVolumes_rr_37 N G_impl_DropPass_w G_impl_AddPass_w G_impl_OpenVolume_r G_impl_OpenVolume_w G_spec_OpenVolume_w G_spec_OpenVolume_r G_spec_MakeVolume G_impl_MakeVolume G_spec_DrawOpenVolume_r G_spec_DrawMakeVolume_r) (addFn 35 (pa_laws_FnVolumes_rr__oc_laws_FnVolumes_rr_35 N G_impl_DropPass_w G_impl_AddPass_w G_impl_OpenVolume_r G_impl_OpenVolume_w G_spec_OpenVolume_w G_spec_OpenVolume_r G_spec_MakeVolume G_impl_MakeVolume G_spec_DrawOpenVolume_r G_spec_DrawMakeVolume_r) (addFn 29 (pa_laws_FnVolumes_rr__o_spec_MakeVolume N G_impl_DropPass_w G_impl_AddPass_w G_impl_OpenVolume_r G_impl_OpenVolume_w G_spec_OpenVolume_w G_spec_OpenVolume_r G_spec_MakeVolume G_impl_MakeVolume G_spec_DrawOpenVolume_r G_spec_DrawMakeVolume_r) (addFn 30 (pa_laws_FnVolumes_rr__o_impl_MakeVolume N G_impl_DropPass_w G_impl_AddPass_w G_impl_OpenVolume_r G_impl_OpenVolume_w G_spec_OpenVolume_w G_spec_OpenVolume_r G_spec_MakeVolume G_impl_MakeVolume G_spec_DrawOpenVolume_r G_spec_DrawMakeVolume_r) (addFn 49 (pa_laws_FnVolumes_rr__o_spec_DrawOpenVolume_r N G_impl_DropPass_w G_impl_AddPass_w G_impl_OpenVolume_r G_impl_OpenVolume_w G_spec_OpenVolume_w G_spec_OpenVolume_r G_spec_MakeVolume G_impl_MakeVolume G_spec_DrawOpenVolume_r G_spec_DrawMakeVolume_r) (addFn 48 (pa_laws_FnVolumes_rr__o_spec_DrawMakeVolume_r N G_impl_DropPass_w G_impl_AddPass_w G_impl_OpenVolume_r G_impl_OpenVolume_w G_spec_OpenVolume_w G_spec_OpenVolume_r G_spec_MakeVolume G_impl_MakeVolume G_spec_DrawOpenVolume_r G_spec_DrawMakeVolume_r) (noFn))))))))
theorem O_laws_FnVolumes_rr_ok (N : Nat) : OrcOk (O_laws_FnVolumes_rr N) := addFn_ok (o_impl_DropPass_w_ok N) (addFn_ok (o_impl_AddPass_w_ok N) (addFn_ok (oc_laws_FnVolumes_rr_37_ok N) (addFn_ok (oc_laws_FnVolumes_rr_35_ok N) (addFn_ok (o_spec_MakeVolume_ok N) (addFn_ok (o_impl_MakeVolume_ok N) (addFn_ok (o_spec_DrawOpenVolume_r_ok N) (addFn_ok (o_spec_DrawMakeVolume_r_ok N) (noFn_ok))))))))
def g_laws_FnVolumes_rr (N : Nat) {R : Type} (b : Bool) (b1 : Bool) (l : List Int) (l1 : List Int) (k : Bool → Option R) : Option R :=
  (oK (cond (decide (((((List.length l) : Nat) : Int) > (1048576 : Int))))
    (some Bool.true)
    (some (decide (((((List.length l1) : Nat) : Int) > (1048576 : Int)))))) fun j =>
  (cond j
  (k Bool.true)
  (g_spec_DrawMakeVolume_r N b l fun s s1 n =>
    (g_spec_DrawOpenVolume_r N b1 l1 fun b2 s2 s3 l2 =>
    (g_impl_MakeVolume N s s1 n fun n1 b3 s4 l3 =>
    (g_spec_MakeVolume N s s1 n fun n2 b4 s5 l4 =>
    (cond (n1 != n2)
    (k Bool.false)
    (oK (cond (n1 != (0 : Int))
        (some Bool.true)
        (cond (decide (((((ByteArray.size s3) : Nat) : Int) > (4096 : Int))))
          (some Bool.true)
          (some (decide (((((ByteArray.size s1) : Nat) : Int) > (4096 : Int))))))) fun j1 =>
      (cond j1
      (k Bool.true)
      (g_spec_OpenVolume_w N b3 s4 s3 l3 fun n3 s6 =>
        (cond (n3 == (0 : Int))
        (g_impl_OpenVolume_r N b3 s4 s3 l3 fun n4 s7 =>
          (g_spec_OpenVolume_r N b3 s4 s3 l3 fun n5 s8 =>
          (k ((n4 == n5) && ((decide ((s7 = s8))) && Bool.true)))))
        (g_impl_AddPass_w N b3 s4 s1 s3 (9 : Int) l3 fun n6 b5 s9 l5 =>
          (g_impl_OpenVolume_w N b3 s4 s1 l3 fun n7 s10 =>
          (g_impl_OpenVolume_w N b5 s9 s3 l5 fun n8 s11 =>
          (oK (cond (n7 != (0 : Int))
            (some Bool.true)
            (cond (!(decide ((s10 = s))))
              (some Bool.true)
              (cond (n6 != (0 : Int))
                (some Bool.true)
                (cond (n8 != (0 : Int))
                  (some Bool.true)
                  (some (!(decide ((s11 = s))))))))) fun j2 =>
          (cond j2
          (k Bool.false)
          (g_impl_DropPass_w N b5 s9 (0 : Int) l5 (fun n9 b6 s12 l6 =>
            (g_impl_OpenVolume_w N b6 s12 s3 l6 fun n10 s13 =>
            (g_impl_OpenVolume_w N b6 s12 s1 l6 fun n11 s14 =>
            (oK (cond (n9 == (0 : Int))
              (cond (n10 == (0 : Int))
                (cond (decide ((s13 = s)))
                  (g_spec_OpenVolume_r N b6 s12 s1 l6 fun n12 s15 =>
                    (some ((n11 == n12) && ((decide ((s14 = s15))) && Bool.true))))
                  (some Bool.false))
                (some Bool.false))
              (some Bool.false)) fun j3 =>
            (k j3))))) (fun m m1 b7 l7 =>
            (cond (Nat.ble (0 + m) (List.length l7))
            (g_impl_OpenVolume_r N b7 s9 s3 (Go.Eng.seg l7 0 m) fun n13 s16 =>
              (cond (Nat.ble (0 + m) (List.length l7))
              (g_impl_OpenVolume_r N b7 s9 s1 (Go.Eng.seg l7 0 m) fun n14 s17 =>
                (oK (cond (n13 == (0 : Int))
                  (cond (decide ((s16 = s)))
                    (cond (Nat.ble (0 + m) (List.length l7))
                      (g_spec_OpenVolume_r N b7 s9 s1 (Go.Eng.seg l7 0 m) fun n15 s18 =>
                        (some ((n14 == n15) && ((decide ((s17 = s18))) && Bool.true))))
                      none)
                    (some Bool.false))
                  (some Bool.false)) fun j4 =>
                (k j4)))
              none))
            none)))))))))))))))))))
def ga_g_laws_FnVolumes_rr (N : Nat) (G_impl_DropPass_w : ∀ {R : Type} (b : Bool) (s : ByteArray) (n : Int) (l : List Go.Sa.KeySlot) (k : Int → Bool → ByteArray → (List Go.Sa.KeySlot) → Option R) (k_1 : Nat → Nat → Bool → (List Go.Sa.KeySlot) → Option R), Option R) (G_impl_AddPass_w : ∀ {R : Type} (b : Bool) (s : ByteArray) (s1 : ByteArray) (s2 : ByteArray) (n : Int) (l : List Go.Sa.KeySlot) (k : Int → Bool → ByteArray → (List Go.Sa.KeySlot) → Option R), Option R) (G_impl_OpenVolume_r : ∀ {R : Type} (b : Bool) (s : ByteArray) (s1 : ByteArray) (l : List Go.Sa.KeySlot) (k : Int → ByteArray → Option R), Option R) (G_impl_OpenVolume_w : ∀ {R : Type} (b : Bool) (s : ByteArray) (s1 : ByteArray) (l : List Go.Sa.KeySlot) (k : Int → ByteArray → Option R), Option R) (G_spec_OpenVolume_w : ∀ {R : Type} (b : Bool) (s : ByteArray) (s1 : ByteArray) (l : List Go.Sa.KeySlot) (k : Int → ByteArray → Option R), Option R) (G_spec_OpenVolume_r : ∀ {R : Type} (b : Bool) (s : ByteArray) (s1 : ByteArray) (l : List Go.Sa.KeySlot) (k : Int → ByteArray → Option R), Option R) (G_spec_MakeVolume : ∀ {R : Type} (s : ByteArray) (s1 : ByteArray) (n : Int) (k : Int → Bool → ByteArray → (List Go.Sa.KeySlot) → Option R), Option R) (G_impl_MakeVolume : ∀ {R : Type} (s : ByteArray) (s1 : ByteArray) (n : Int) (k : Int → Bool → ByteArray → (List Go.Sa.KeySlot) → Option R), Option R) (G_spec_DrawOpenVolume_r : ∀ {R : Type} (b : Bool) (l : List Int) (k : Bool → ByteArray → ByteArray → (List Go.Sa.KeySlot) → Option R), Option R) (G_spec_DrawMakeVolume_r : ∀ {R : Type} (b : Bool) (l : List Int) (k : ByteArray → ByteArray → Int → Option R), Option R) {R : Type} (b : Bool) (b1 : Bool) (l : List Int) (l1 : List Int) (k : Bool → Option R) : Option R :=
  (oK (cond (decide (((((List.length l) : Nat) : Int) > (1048576 : Int))))
    (some Bool.true)
    (some (decide (((((List.length l1) : Nat) : Int) > (1048576 : Int)))))) fun j =>
  (cond j
  (k Bool.true)
  (G_spec_DrawMakeVolume_r b l fun s s1 n =>
    (G_spec_DrawOpenVolume_r b1 l1 fun b2 s2 s3 l2 =>
    (G_impl_MakeVolume s s1 n fun n1 b3 s4 l3 =>
    (G_spec_MakeVolume s s1 n fun n2 b4 s5 l4 =>
    (cond (n1 != n2)
    (k Bool.false)
    (oK (cond (n1 != (0 : Int))
        (some Bool.true)
        (cond (decide (((((ByteArray.size s3) : Nat) : Int) > (4096 : Int))))
          (some Bool.true)
          (some (decide (((((ByteArray.size s1) : Nat) : Int) > (4096 : Int))))))) fun j1 =>
      (cond j1
      (k Bool.true)
      (G_spec_OpenVolume_w b3 s4 s3 l3 fun n3 s6 =>
        (cond (n3 == (0 : Int))
        (G_impl_OpenVolume_r b3 s4 s3 l3 fun n4 s7 =>
          (G_spec_OpenVolume_r b3 s4 s3 l3 fun n5 s8 =>
          (k ((n4 == n5) && ((decide ((s7 = s8))) && Bool.true)))))
        (G_impl_AddPass_w b3 s4 s1 s3 (9 : Int) l3 fun n6 b5 s9 l5 =>
          (G_impl_OpenVolume_w b3 s4 s1 l3 fun n7 s10 =>
          (G_impl_OpenVolume_w b5 s9 s3 l5 fun n8 s11 =>
          (oK (cond (n7 != (0 : Int))
            (some Bool.true)
            (cond (!(decide ((s10 = s))))
              (some Bool.true)
              (cond (n6 != (0 : Int))
                (some Bool.true)
                (cond (n8 != (0 : Int))
                  (some Bool.true)
                  (some (!(decide ((s11 = s))))))))) fun j2 =>
          (cond j2
          (k Bool.false)
          (G_impl_DropPass_w b5 s9 (0 : Int) l5 (fun n9 b6 s12 l6 =>
            (G_impl_OpenVolume_w b6 s12 s3 l6 fun n10 s13 =>
            (G_impl_OpenVolume_w b6 s12 s1 l6 fun n11 s14 =>
            (oK (cond (n9 == (0 : Int))
              (cond (n10 == (0 : Int))
                (cond (decide ((s13 = s)))
                  (G_spec_OpenVolume_r b6 s12 s1 l6 fun n12 s15 =>
                    (some ((n11 == n12) && ((decide ((s14 = s15))) && Bool.true))))
                  (some Bool.false))
                (some Bool.false))
              (some Bool.false)) fun j3 =>
            (k j3))))) (fun m m1 b7 l7 =>
            (cond (Nat.ble (0 + m) (List.length l7))
            (G_impl_OpenVolume_r b7 s9 s3 (Go.Eng.seg l7 0 m) fun n13 s16 =>
              (cond (Nat.ble (0 + m) (List.length l7))
              (G_impl_OpenVolume_r b7 s9 s1 (Go.Eng.seg l7 0 m) fun n14 s17 =>
                (oK (cond (n13 == (0 : Int))
                  (cond (decide ((s16 = s)))
                    (cond (Nat.ble (0 + m) (List.length l7))
                      (G_spec_OpenVolume_r b7 s9 s1 (Go.Eng.seg l7 0 m) fun n15 s18 =>
                        (some ((n14 == n15) && ((decide ((s17 = s18))) && Bool.true))))
                      none)
                    (some Bool.false))
                  (some Bool.false)) fun j4 =>
                (k j4)))
              none))
            none)))))))))))))))))))
theorem ea_e_laws_FnVolumes_rr (N : Nat) (G_impl_DropPass_w : ∀ {R : Type} (b : Bool) (s : ByteArray) (n : Int) (l : List Go.Sa.KeySlot) (k : Int → Bool → ByteArray → (List Go.Sa.KeySlot) → Option R) (k_1 : Nat → Nat → Bool → (List Go.Sa.KeySlot) → Option R), Option R) (G_impl_AddPass_w : ∀ {R : Type} (b : Bool) (s : ByteArray) (s1 : ByteArray) (s2 : ByteArray) (n : Int) (l : List Go.Sa.KeySlot) (k : Int → Bool → ByteArray → (List Go.Sa.KeySlot) → Option R), Option R) (G_impl_OpenVolume_r : ∀ {R : Type} (b : Bool) (s : ByteArray) (s1 : ByteArray) (l : List Go.Sa.KeySlot) (k : Int → ByteArray → Option R), Option R) (G_impl_OpenVolume_w : ∀ {R : Type} (b : Bool) (s : ByteArray) (s1 : ByteArray) (l : List Go.Sa.KeySlot) (k : Int → ByteArray → Option R), Option R) (G_spec_OpenVolume_w : ∀ {R : Type} (b : Bool) (s : ByteArray) (s1 : ByteArray) (l : List Go.Sa.KeySlot) (k : Int → ByteArray → Option R), Option R) (G_spec_OpenVolume_r : ∀ {R : Type} (b : Bool) (s : ByteArray) (s1 : ByteArray) (l : List Go.Sa.KeySlot) (k : Int → ByteArray → Option R), Option R) (G_spec_MakeVolume : ∀ {R : Type} (s : ByteArray) (s1 : ByteArray) (n : Int) (k : Int → Bool → ByteArray → (List Go.Sa.KeySlot) → Option R), Option R) (G_impl_MakeVolume : ∀ {R : Type} (s : ByteArray) (s1 : ByteArray) (n : Int) (k : Int → Bool → ByteArray → (List Go.Sa.KeySlot) → Option R), Option R) (G_spec_DrawOpenVolume_r : ∀ {R : Type} (b : Bool) (l : List Int) (k : Bool → ByteArray → ByteArray → (List Go.Sa.KeySlot) → Option R), Option R) (G_spec_DrawMakeVolume_r : ∀ {R : Type} (b : Bool) (l : List Int) (k : ByteArray → ByteArray → Int → Option R), Option R) {R : Type} (b : Bool) (b1 : Bool) (l : List Int) (l1 : List Int) (K : AV → Hp E → Option R) :
    runFnI (E := E) (OA_laws_FnVolumes_rr N G_impl_DropPass_w G_impl_AddPass_w G_impl_OpenVolume_r G_impl_OpenVolume_w G_spec_OpenVolume_w G_spec_OpenVolume_r G_spec_MakeVolume G_impl_MakeVolume G_spec_DrawOpenVolume_r G_spec_DrawMakeVolume_r) (noIt) sl_laws_FnVolumes_rr J_laws_FnVolumes_rr Go.Proofs.Try.f10 [(Go.Eng.AV.sc (Go.Eng.SV.slc 0 Option.none b)), (Go.Eng.AV.sc (Go.Eng.SV.slc 1 Option.none b1))] [(Option.some (Go.Eng.HE.mk Bool.true (Go.Eng.HB.rows (Go.Sa.B.u8 l)))), (Option.some (Go.Eng.HE.mk Bool.true (Go.Eng.HB.rows (Go.Sa.B.u8 l1))))] K =
      ga_g_laws_FnVolumes_rr N G_impl_DropPass_w G_impl_AddPass_w G_impl_OpenVolume_r G_impl_OpenVolume_w G_spec_OpenVolume_w G_spec_OpenVolume_r G_spec_MakeVolume G_impl_MakeVolume G_spec_DrawOpenVolume_r G_spec_DrawMakeVolume_r b b1 l l1 (fun b8 => K (Go.Eng.AV.sc (Go.Eng.SV.bool b8)) [(Option.some (Go.Eng.HE.mk Bool.true (Go.Eng.HB.rows (Go.Sa.B.u8 l)))), (Option.some (Go.Eng.HE.mk Bool.true (Go.Eng.HB.rows (Go.Sa.B.u8 l1))))]) := by kernel_rfl
theorem e_laws_FnVolumes_rr (N : Nat) {R : Type} (b : Bool) (b1 : Bool) (l : List Int) (l1 : List Int) (K : AV → Hp E → Option R) :
    runFnI (E := E) (O_laws_FnVolumes_rr N) (noIt) sl_laws_FnVolumes_rr J_laws_FnVolumes_rr Go.Proofs.Try.f10 [(Go.Eng.AV.sc (Go.Eng.SV.slc 0 Option.none b)), (Go.Eng.AV.sc (Go.Eng.SV.slc 1 Option.none b1))] [(Option.some (Go.Eng.HE.mk Bool.true (Go.Eng.HB.rows (Go.Sa.B.u8 l)))), (Option.some (Go.Eng.HE.mk Bool.true (Go.Eng.HB.rows (Go.Sa.B.u8 l1))))] K =
      g_laws_FnVolumes_rr N b b1 l l1 (fun b8 => K (Go.Eng.AV.sc (Go.Eng.SV.bool b8)) [(Option.some (Go.Eng.HE.mk Bool.true (Go.Eng.HB.rows (Go.Sa.B.u8 l)))), (Option.some (Go.Eng.HE.mk Bool.true (Go.Eng.HB.rows (Go.Sa.B.u8 l1))))]) := castPr (by kernel_rfl) (ea_e_laws_FnVolumes_rr N (g_impl_DropPass_w N) (g_impl_AddPass_w N) (g_impl_OpenVolume_r N) (g_impl_OpenVolume_w N) (g_spec_OpenVolume_w N) (g_spec_OpenVolume_r N) (g_spec_MakeVolume N) (g_impl_MakeVolume N) (g_spec_DrawOpenVolume_r N) (g_spec_DrawMakeVolume_r N) b b1 l l1 K)
def o_laws_FnVolumes_rr (N : Nat) {R : Type} (args : List AV) (H : Hp E) (K : AV → Hp E → Option R) : Option R :=
  match args, H with
  | [(Go.Eng.AV.sc (Go.Eng.SV.slc 0 Option.none b)), (Go.Eng.AV.sc (Go.Eng.SV.slc 1 Option.none b1))], [(Option.some (Go.Eng.HE.mk Bool.true (Go.Eng.HB.rows (Go.Sa.B.u8 l)))), (Option.some (Go.Eng.HE.mk Bool.true (Go.Eng.HB.rows (Go.Sa.B.u8 l1))))] => g_laws_FnVolumes_rr N b b1 l l1 (fun b8 => K (Go.Eng.AV.sc (Go.Eng.SV.bool b8)) [(Option.some (Go.Eng.HE.mk Bool.true (Go.Eng.HB.rows (Go.Sa.B.u8 l)))), (Option.some (Go.Eng.HE.mk Bool.true (Go.Eng.HB.rows (Go.Sa.B.u8 l1))))])
  | _, _ => none
theorem o_laws_FnVolumes_rr_ok (N : Nat) : FnOk E 10 (o_laws_FnVolumes_rr N) := by
  intro R args H K r h
  unfold o_laws_FnVolumes_rr at h
  dsimp only at h
  split at h
  · exact fnB_ok (ids := []) (top := []) ok (O_laws_FnVolumes_rr_ok N) (jn_ok _ _ _) Go.Proofs.Try.func10 (by kernel_rfl) (IT := noIt) (sl := sl_laws_FnVolumes_rr) (J := J_laws_FnVolumes_rr) (K := K) (H := [(Option.some (Go.Eng.HE.mk Bool.true (Go.Eng.HB.rows (Go.Sa.B.u8 _)))), (Option.some (Go.Eng.HE.mk Bool.true (Go.Eng.HB.rows (Go.Sa.B.u8 _))))]) (noIt_ok) (by kernel_rfl) rfl ((e_laws_FnVolumes_rr N _ _ _ _ K).trans h)
  · cases h
end Go.Sa
