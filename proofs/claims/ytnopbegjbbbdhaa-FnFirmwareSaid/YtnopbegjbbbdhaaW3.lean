import Derived.Test.YtnopbegjbbbdhaaSpec
import Derived.Test.YtnopbegjbbbdhaaPLb
import Derived.Test.YtnopbegjbbbdhaaW2
set_option linter.all false
namespace Go.Sa
open Go Go.Eng Go.Proofs
set_option maxRecDepth 100000
/-! ### loop.example/g00038/spec.DrawPutTables -/
abbrev sl_spec_DrawPutTables_r : SlotT := []
abbrev J_spec_DrawPutTables_r : JT := jn [] [] [(2, [2, 4, 7, 11])]
noncomputable def O_spec_DrawPutTables_r (N : Nat) : Orc E := addFn 104 (o_spec_l01Src_firmTables_Wr N) (addFn 102 (o_spec_l01Src_frames_Wr N) (addFn 103 (o_spec_l01Src_n_Wr N) (addFn 101 (o_spec_l01Source_r N) (noFn))))
def pa_spec_DrawPutTables_r__o_spec_l01Src_firmTables_Wr (N : Nat) (G_spec_l01Src_firmTables_Wr : ∀ {R : Type} (b : Bool) (n : Int) (n1 : Int) (n2 : Int) (l : List Int) (k : Bool → Int → Int → (List Go.Sa.FirmTable) → Option R), Option R) (G_spec_l01Src_frames_Wr : ∀ {R : Type} (n : Int) (b : Bool) (n1 : Int) (n2 : Int) (n3 : Int) (l : List Int) (k : ByteArray → Int → Int → Option R), Option R) (G_spec_l01Src_n_Wr : ∀ {R : Type} (n : Int) (b : Bool) (n1 : Int) (n2 : Int) (n3 : Int) (l : List Int) (k : Int → Int → Int → Option R), Option R) (G_spec_l01Source_r : ∀ {R : Type} (b : Bool) (l : List Int) (k : Int → Int → Option R), Option R) {R : Type} (args : List AV) (H : Hp E) (K : AV → Hp E → Option R) : Option R :=
  match args, H with
  | [(Go.Eng.AV.sc (Go.Eng.SV.ptr 0 0 0))], [(Option.some (Go.Eng.HE.mk Bool.false (Go.Eng.HB.exp Option.none [(Go.Eng.SV.slc 1 Option.none b), (Go.Eng.SV.int Go.IntKind.i64 n), (Go.Eng.SV.int Go.IntKind.u64 n1), (Go.Eng.SV.int Go.IntKind.i64 n2)]))), (Option.some (Go.Eng.HE.mk Bool.true (Go.Eng.HB.rows (Go.Sa.B.u8 l))))] => G_spec_l01Src_firmTables_Wr b n n1 n2 l (fun b15 n67 n68 l8 => K (Go.Eng.AV.sc (Go.Eng.SV.slc 2 Option.none b15)) [(Option.some (Go.Eng.HE.mk Bool.false (Go.Eng.HB.exp Option.none [(Go.Eng.SV.slc 1 Option.none b), (Go.Eng.SV.int Go.IntKind.i64 n67), (Go.Eng.SV.int Go.IntKind.u64 n68), (Go.Eng.SV.int Go.IntKind.i64 n2)]))), (Option.some (Go.Eng.HE.mk Bool.true (Go.Eng.HB.rows (Go.Sa.B.u8 l)))), (Option.some (Go.Eng.HE.mk Bool.false (Go.Eng.HB.rows (Go.Sa.B.iFirmTable l8))))])
  | _, _ => none
def pa_spec_DrawPutTables_r__o_spec_l01Src_frames_Wr (N : Nat) (G_spec_l01Src_firmTables_Wr : ∀ {R : Type} (b : Bool) (n : Int) (n1 : Int) (n2 : Int) (l : List Int) (k : Bool → Int → Int → (List Go.Sa.FirmTable) → Option R), Option R) (G_spec_l01Src_frames_Wr : ∀ {R : Type} (n : Int) (b : Bool) (n1 : Int) (n2 : Int) (n3 : Int) (l : List Int) (k : ByteArray → Int → Int → Option R), Option R) (G_spec_l01Src_n_Wr : ∀ {R : Type} (n : Int) (b : Bool) (n1 : Int) (n2 : Int) (n3 : Int) (l : List Int) (k : Int → Int → Int → Option R), Option R) (G_spec_l01Source_r : ∀ {R : Type} (b : Bool) (l : List Int) (k : Int → Int → Option R), Option R) {R : Type} (args : List AV) (H : Hp E) (K : AV → Hp E → Option R) : Option R :=
  match args, H with
  | [(Go.Eng.AV.sc (Go.Eng.SV.ptr 0 0 0)), (Go.Eng.AV.sc (Go.Eng.SV.int Go.IntKind.i64 n))], [(Option.some (Go.Eng.HE.mk Bool.false (Go.Eng.HB.exp Option.none [(Go.Eng.SV.slc 1 Option.none b), (Go.Eng.SV.int Go.IntKind.i64 n1), (Go.Eng.SV.int Go.IntKind.u64 n2), (Go.Eng.SV.int Go.IntKind.i64 n3)]))), (Option.some (Go.Eng.HE.mk Bool.true (Go.Eng.HB.rows (Go.Sa.B.u8 l))))] => G_spec_l01Src_frames_Wr n b n1 n2 n3 l (fun s n19 n20 => K (Go.Eng.AV.sc (Go.Eng.SV.str s)) [(Option.some (Go.Eng.HE.mk Bool.false (Go.Eng.HB.exp Option.none [(Go.Eng.SV.slc 1 Option.none b), (Go.Eng.SV.int Go.IntKind.i64 n19), (Go.Eng.SV.int Go.IntKind.u64 n20), (Go.Eng.SV.int Go.IntKind.i64 n3)]))), (Option.some (Go.Eng.HE.mk Bool.true (Go.Eng.HB.rows (Go.Sa.B.u8 l))))])
  | _, _ => none
def pa_spec_DrawPutTables_r__o_spec_l01Src_n_Wr (N : Nat) (G_spec_l01Src_firmTables_Wr : ∀ {R : Type} (b : Bool) (n : Int) (n1 : Int) (n2 : Int) (l : List Int) (k : Bool → Int → Int → (List Go.Sa.FirmTable) → Option R), Option R) (G_spec_l01Src_frames_Wr : ∀ {R : Type} (n : Int) (b : Bool) (n1 : Int) (n2 : Int) (n3 : Int) (l : List Int) (k : ByteArray → Int → Int → Option R), Option R) (G_spec_l01Src_n_Wr : ∀ {R : Type} (n : Int) (b : Bool) (n1 : Int) (n2 : Int) (n3 : Int) (l : List Int) (k : Int → Int → Int → Option R), Option R) (G_spec_l01Source_r : ∀ {R : Type} (b : Bool) (l : List Int) (k : Int → Int → Option R), Option R) {R : Type} (args : List AV) (H : Hp E) (K : AV → Hp E → Option R) : Option R :=
  match args, H with
  | [(Go.Eng.AV.sc (Go.Eng.SV.ptr 0 0 0)), (Go.Eng.AV.sc (Go.Eng.SV.int Go.IntKind.i64 n))], [(Option.some (Go.Eng.HE.mk Bool.false (Go.Eng.HB.exp Option.none [(Go.Eng.SV.slc 1 Option.none b), (Go.Eng.SV.int Go.IntKind.i64 n1), (Go.Eng.SV.int Go.IntKind.u64 n2), (Go.Eng.SV.int Go.IntKind.i64 n3)]))), (Option.some (Go.Eng.HE.mk Bool.true (Go.Eng.HB.rows (Go.Sa.B.u8 l))))] => G_spec_l01Src_n_Wr n b n1 n2 n3 l (fun n4 n5 n6 => K (Go.Eng.AV.sc (Go.Eng.SV.int Go.IntKind.i64 n4)) [(Option.some (Go.Eng.HE.mk Bool.false (Go.Eng.HB.exp Option.none [(Go.Eng.SV.slc 1 Option.none b), (Go.Eng.SV.int Go.IntKind.i64 n5), (Go.Eng.SV.int Go.IntKind.u64 n6), (Go.Eng.SV.int Go.IntKind.i64 n3)]))), (Option.some (Go.Eng.HE.mk Bool.true (Go.Eng.HB.rows (Go.Sa.B.u8 l))))])
  | _, _ => none
def pa_spec_DrawPutTables_r__o_spec_l01Source_r (N : Nat) (G_spec_l01Src_firmTables_Wr : ∀ {R : Type} (b : Bool) (n : Int) (n1 : Int) (n2 : Int) (l : List Int) (k : Bool → Int → Int → (List Go.Sa.FirmTable) → Option R), Option R) (G_spec_l01Src_frames_Wr : ∀ {R : Type} (n : Int) (b : Bool) (n1 : Int) (n2 : Int) (n3 : Int) (l : List Int) (k : ByteArray → Int → Int → Option R), Option R) (G_spec_l01Src_n_Wr : ∀ {R : Type} (n : Int) (b : Bool) (n1 : Int) (n2 : Int) (n3 : Int) (l : List Int) (k : Int → Int → Int → Option R), Option R) (G_spec_l01Source_r : ∀ {R : Type} (b : Bool) (l : List Int) (k : Int → Int → Option R), Option R) {R : Type} (args : List AV) (H : Hp E) (K : AV → Hp E → Option R) : Option R :=
  match args, H with
  | [(Go.Eng.AV.sc (Go.Eng.SV.slc 0 Option.none b))], [(Option.some (Go.Eng.HE.mk Bool.true (Go.Eng.HB.rows (Go.Sa.B.u8 l))))] => G_spec_l01Source_r b l (fun n5 n6 => K (Go.Eng.AV.sc (Go.Eng.SV.ptr 1 0 0)) [(Option.some (Go.Eng.HE.mk Bool.true (Go.Eng.HB.rows (Go.Sa.B.u8 l)))), (Option.some (Go.Eng.HE.mk Bool.false (Go.Eng.HB.exp Option.none [(Go.Eng.SV.slc 0 Option.none b), (Go.Eng.SV.int Go.IntKind.i64 (0 : Int)), (Go.Eng.SV.int Go.IntKind.u64 n5), (Go.Eng.SV.int Go.IntKind.i64 n6)])))])
  | _, _ => none
noncomputable def OA_spec_DrawPutTables_r (N : Nat) (G_spec_l01Src_firmTables_Wr : ∀ {R : Type} (b : Bool) (n : Int) (n1 : Int) (n2 : Int) (l : List Int) (k : Bool → Int → Int → (List Go.Sa.FirmTable) → Option R), Option R) (G_spec_l01Src_frames_Wr : ∀ {R : Type} (n : Int) (b : Bool) (n1 : Int) (n2 : Int) (n3 : Int) (l : List Int) (k : ByteArray → Int → Int → Option R), Option R) (G_spec_l01Src_n_Wr : ∀ {R : Type} (n : Int) (b : Bool) (n1 : Int) (n2 : Int) (n3 : Int) (l : List Int) (k : Int → Int → Int → Option R), Option R) (G_spec_l01Source_r : ∀ {R : Type} (b : Bool) (l : List Int) (k : Int → Int → Option R), Option R) : Orc E := addFn 104 (pa_spec_DrawPutTables_r__o_spec_l01Src_firmTables_Wr N G_spec_l01Src_firmTables_Wr G_spec_l01Src_frames_Wr G_spec_l01Src_n_Wr G_spec_l01Source_r) (addFn 102 (pa_spec_DrawPutTables_r__o_spec_l01Src_frames_Wr N G_spec_l01Src_firmTables_Wr G_spec_l01Src_frames_Wr G_spec_l01Src_n_Wr G_spec_l01Source_r) (addFn 103 (pa_spec_DrawPutTables_r__o_spec_l01Src_n_Wr N G_spec_l01Src_firmTables_Wr G_spec_l01Src_frames_Wr G_spec_l01Src_n_Wr G_spec_l01Source_r) (addFn 101 (pa_spec_DrawPutTables_r__o_spec_l01Source_r N G_spec_l01Src_firmTables_Wr G_spec_l01Src_frames_Wr G_spec_l01Src_n_Wr G_spec_l01Source_r) (noFn))))
theorem O_spec_DrawPutTables_r_ok (N : Nat) : OrcOk (O_spec_DrawPutTables_r N) := addFn_ok (o_spec_l01Src_firmTables_Wr_ok N) (addFn_ok (o_spec_l01Src_frames_Wr_ok N) (addFn_ok (o_spec_l01Src_n_Wr_ok N) (addFn_ok (o_spec_l01Source_r_ok N) (noFn_ok))))
def g_spec_DrawPutTables_r (N : Nat) {R : Type} (b : Bool) (l : List Int) (k : ByteArray → Int → Bool → (List Go.Sa.FirmTable) → Option R) : Option R :=
  (g_spec_l01Source_r N b l fun n n1 =>
  (g_spec_l01Src_n_Wr N (3 : Int) b (0 : Int) n n1 l fun n2 n3 n4 =>
  (g_spec_l01Src_frames_Wr N (Go.IntKind.wrap Go.IntKind.i64 ((1 : Int) + n2)) b n3 n4 n1 l fun s n5 n6 =>
  (g_spec_l01Src_n_Wr N (8 : Int) b n5 n6 n1 l fun n7 n8 n9 =>
  (cond ((decide (((0 : Int) ≤ n7))) && (decide ((n7 < (8 : Int)))))
  (elemK [(0 : Int), (4 : Int), (256 : Int), (200 : Int), (2 : Int), (-(4 : Int)), (768 : Int), (250 : Int)] (Int.toNat n7) fun x =>
    (g_spec_l01Src_firmTables_Wr N b n8 n9 n1 l fun b1 n10 n11 l1 =>
    (k s x b1 l1)))
  none)))))
def ga_g_spec_DrawPutTables_r (N : Nat) (G_spec_l01Src_firmTables_Wr : ∀ {R : Type} (b : Bool) (n : Int) (n1 : Int) (n2 : Int) (l : List Int) (k : Bool → Int → Int → (List Go.Sa.FirmTable) → Option R), Option R) (G_spec_l01Src_frames_Wr : ∀ {R : Type} (n : Int) (b : Bool) (n1 : Int) (n2 : Int) (n3 : Int) (l : List Int) (k : ByteArray → Int → Int → Option R), Option R) (G_spec_l01Src_n_Wr : ∀ {R : Type} (n : Int) (b : Bool) (n1 : Int) (n2 : Int) (n3 : Int) (l : List Int) (k : Int → Int → Int → Option R), Option R) (G_spec_l01Source_r : ∀ {R : Type} (b : Bool) (l : List Int) (k : Int → Int → Option R), Option R) {R : Type} (b : Bool) (l : List Int) (k : ByteArray → Int → Bool → (List Go.Sa.FirmTable) → Option R) : Option R :=
  (G_spec_l01Source_r b l fun n n1 =>
  (G_spec_l01Src_n_Wr (3 : Int) b (0 : Int) n n1 l fun n2 n3 n4 =>
  (G_spec_l01Src_frames_Wr (Go.IntKind.wrap Go.IntKind.i64 ((1 : Int) + n2)) b n3 n4 n1 l fun s n5 n6 =>
  (G_spec_l01Src_n_Wr (8 : Int) b n5 n6 n1 l fun n7 n8 n9 =>
  (cond ((decide (((0 : Int) ≤ n7))) && (decide ((n7 < (8 : Int)))))
  (elemK [(0 : Int), (4 : Int), (256 : Int), (200 : Int), (2 : Int), (-(4 : Int)), (768 : Int), (250 : Int)] (Int.toNat n7) fun x =>
    (G_spec_l01Src_firmTables_Wr b n8 n9 n1 l fun b1 n10 n11 l1 =>
    (k s x b1 l1)))
  none)))))
theorem ea_e_spec_DrawPutTables_r (N : Nat) (G_spec_l01Src_firmTables_Wr : ∀ {R : Type} (b : Bool) (n : Int) (n1 : Int) (n2 : Int) (l : List Int) (k : Bool → Int → Int → (List Go.Sa.FirmTable) → Option R), Option R) (G_spec_l01Src_frames_Wr : ∀ {R : Type} (n : Int) (b : Bool) (n1 : Int) (n2 : Int) (n3 : Int) (l : List Int) (k : ByteArray → Int → Int → Option R), Option R) (G_spec_l01Src_n_Wr : ∀ {R : Type} (n : Int) (b : Bool) (n1 : Int) (n2 : Int) (n3 : Int) (l : List Int) (k : Int → Int → Int → Option R), Option R) (G_spec_l01Source_r : ∀ {R : Type} (b : Bool) (l : List Int) (k : Int → Int → Option R), Option R) {R : Type} (b : Bool) (l : List Int) (K : AV → Hp E → Option R) :
    runFnI (E := E) (OA_spec_DrawPutTables_r N G_spec_l01Src_firmTables_Wr G_spec_l01Src_frames_Wr G_spec_l01Src_n_Wr G_spec_l01Source_r) (noIt) sl_spec_DrawPutTables_r J_spec_DrawPutTables_r Go.Proofs.Try.f39 [(Go.Eng.AV.sc (Go.Eng.SV.slc 0 Option.none b))] [(Option.some (Go.Eng.HE.mk Bool.true (Go.Eng.HB.rows (Go.Sa.B.u8 l))))] K =
      ga_g_spec_DrawPutTables_r N G_spec_l01Src_firmTables_Wr G_spec_l01Src_frames_Wr G_spec_l01Src_n_Wr G_spec_l01Source_r b l (fun s1 n12 b2 l2 => K (Go.Eng.AV.tup [(Bool.false, [(Go.Eng.SV.str s1)]), (Bool.false, [(Go.Eng.SV.int Go.IntKind.i64 n12)]), (Bool.false, [(Go.Eng.SV.slc 1 Option.none b2)])]) [(Option.some (Go.Eng.HE.mk Bool.true (Go.Eng.HB.rows (Go.Sa.B.u8 l)))), (Option.some (Go.Eng.HE.mk Bool.false (Go.Eng.HB.rows (Go.Sa.B.iFirmTable l2))))]) := by kernel_rfl
theorem e_spec_DrawPutTables_r (N : Nat) {R : Type} (b : Bool) (l : List Int) (K : AV → Hp E → Option R) :
    runFnI (E := E) (O_spec_DrawPutTables_r N) (noIt) sl_spec_DrawPutTables_r J_spec_DrawPutTables_r Go.Proofs.Try.f39 [(Go.Eng.AV.sc (Go.Eng.SV.slc 0 Option.none b))] [(Option.some (Go.Eng.HE.mk Bool.true (Go.Eng.HB.rows (Go.Sa.B.u8 l))))] K =
      g_spec_DrawPutTables_r N b l (fun s1 n12 b2 l2 => K (Go.Eng.AV.tup [(Bool.false, [(Go.Eng.SV.str s1)]), (Bool.false, [(Go.Eng.SV.int Go.IntKind.i64 n12)]), (Bool.false, [(Go.Eng.SV.slc 1 Option.none b2)])]) [(Option.some (Go.Eng.HE.mk Bool.true (Go.Eng.HB.rows (Go.Sa.B.u8 l)))), (Option.some (Go.Eng.HE.mk Bool.false (Go.Eng.HB.rows (Go.Sa.B.iFirmTable l2))))]) := castPr (by kernel_rfl) (ea_e_spec_DrawPutTables_r N (g_spec_l01Src_firmTables_Wr N) (g_spec_l01Src_frames_Wr N) (g_spec_l01Src_n_Wr N) (g_spec_l01Source_r N) b l K)
def o_spec_DrawPutTables_r (N : Nat) {R : Type} (args : List AV) (H : Hp E) (K : AV → Hp E → Option R) : Option R :=
  match args, H with
  | [(Go.Eng.AV.sc (Go.Eng.SV.slc 0 Option.none b))], [(Option.some (Go.Eng.HE.mk Bool.true (Go.Eng.HB.rows (Go.Sa.B.u8 l))))] => g_spec_DrawPutTables_r N b l (fun s1 n12 b2 l2 => K (Go.Eng.AV.tup [(Bool.false, [(Go.Eng.SV.str s1)]), (Bool.false, [(Go.Eng.SV.int Go.IntKind.i64 n12)]), (Bool.false, [(Go.Eng.SV.slc 1 Option.none b2)])]) [(Option.some (Go.Eng.HE.mk Bool.true (Go.Eng.HB.rows (Go.Sa.B.u8 l)))), (Option.some (Go.Eng.HE.mk Bool.false (Go.Eng.HB.rows (Go.Sa.B.iFirmTable l2))))])
  | _, _ => none
theorem o_spec_DrawPutTables_r_ok (N : Nat) : FnOk E 39 (o_spec_DrawPutTables_r N) := by
  intro R args H K r h
  unfold o_spec_DrawPutTables_r at h
  dsimp only at h
  split at h
  · exact fnB_ok (ids := []) (top := []) ok (O_spec_DrawPutTables_r_ok N) (jn_ok _ _ _) Go.Proofs.Try.func39 (by kernel_rfl) (IT := noIt) (sl := sl_spec_DrawPutTables_r) (J := J_spec_DrawPutTables_r) (K := K) (H := [(Option.some (Go.Eng.HE.mk Bool.true (Go.Eng.HB.rows (Go.Sa.B.u8 _))))]) (noIt_ok) (by kernel_rfl) rfl ((e_spec_DrawPutTables_r N _ _ K).trans h)
  · cases h
/-! ### loop.example/g00038/impl.ymemOk -/
abbrev sl_impl_ymemOk : SlotT := []
abbrev J_impl_ymemOk : JT := jn [(1, [(2, .b)])] [] []
noncomputable def O_impl_ymemOk (N : Nat) : Orc E := noFn
theorem O_impl_ymemOk_ok (N : Nat) : OrcOk (O_impl_ymemOk N) := noFn_ok
def g_impl_ymemOk (N : Nat) {R : Type} (s : ByteArray) (k : Bool → Option R) : Option R :=
  (oK (cond (decide (((((ByteArray.size s) : Nat) : Int) ≥ (256 : Int))))
    (cond (decide (((((ByteArray.size s) : Nat) : Int) ≤ (65536 : Int))))
      (some ((Int.tmod (((ByteArray.size s) : Nat) : Int) (256 : Int)) == (0 : Int)))
      (some Bool.false))
    (some Bool.false)) fun j =>
  (k j))
theorem e_impl_ymemOk (N : Nat) {R : Type} (s : ByteArray) (K : AV → Hp E → Option R) :
    runFnI (E := E) (O_impl_ymemOk N) (noIt) sl_impl_ymemOk J_impl_ymemOk Go.Proofs.Try.f68 [(Go.Eng.AV.sc (Go.Eng.SV.str s))] [] K =
      g_impl_ymemOk N s (fun b => K (Go.Eng.AV.sc (Go.Eng.SV.bool b)) []) := by kernel_rfl
def o_impl_ymemOk (N : Nat) {R : Type} (args : List AV) (H : Hp E) (K : AV → Hp E → Option R) : Option R :=
  match args, H with
  | [(Go.Eng.AV.sc (Go.Eng.SV.str s))], [] => g_impl_ymemOk N s (fun b => K (Go.Eng.AV.sc (Go.Eng.SV.bool b)) [])
  | _, _ => none
theorem o_impl_ymemOk_ok (N : Nat) : FnOk E 68 (o_impl_ymemOk N) := by
  intro R args H K r h
  unfold o_impl_ymemOk at h
  dsimp only at h
  split at h
  · exact fnB_ok (ids := []) (top := []) ok (O_impl_ymemOk_ok N) (jn_ok _ _ _) Go.Proofs.Try.func68 (by kernel_rfl) (IT := noIt) (sl := sl_impl_ymemOk) (J := J_impl_ymemOk) (K := K) (H := []) (noIt_ok) (by kernel_rfl) rfl ((e_impl_ymemOk N _ K).trans h)
  · cases h
/-! ### loop.example/g00038/impl.ytableName -/
abbrev sl_impl_ytableName : SlotT := [(0, ([0, 5, 6], [0, 2]))]
abbrev J_impl_ytableName : JT := jn [(4, [(18, .b)])] [] []
noncomputable def O_impl_ytableName (N : Nat) : Orc E := noFn
theorem O_impl_ytableName_ok (N : Nat) : OrcOk (O_impl_ytableName N) := noFn_ok
def s_impl_ytableName_0 (N : Nat) {R : Type} (s1 : ByteArray) (n : Int) (n1 : Int) (ag : Int → Option R)  (kR : Option R) (kN : Option R) : Option R :=
  (cond (decide ((n1 < n)))
  (oK (cond ((decide (((0 : Int) ≤ n1))) && (decide ((n1 < (((ByteArray.size s1) : Nat) : Int)))))
      (cond (decide (((Go.Eng.bt s1 (Int.toNat n1)) < (65 : Int))))
        (some Bool.true)
        (cond ((decide (((0 : Int) ≤ n1))) && (decide ((n1 < (((ByteArray.size s1) : Nat) : Int)))))
          (some (decide (((Go.Eng.bt s1 (Int.toNat n1)) > (90 : Int)))))
          none))
      none) fun j =>
    (cond j
    kR
    (ag (Go.IntKind.wrap Go.IntKind.i64 (n1 + (1 : Int))))))
  kN)
def l_impl_ytableName_0 (N : Nat) {R : Type} (s1 : ByteArray) (n : Int) (kR : Option R) (kN : Option R) : Nat → Int → Option R
  | 0, _ => none
  | f + 1, n1 => s_impl_ytableName_0 N s1 n n1 (fun n1 => l_impl_ytableName_0 N s1 n kR kN f n1)  kR kN
def c_impl_ytableName_0 (N : Nat) {R : Type} (s1 : ByteArray) (n : Int) (n1 : Int) (kR : Option R) (kN : Option R) : Option R := l_impl_ytableName_0 N s1 n kR kN N n1
theorem se_impl_ytableName_0 (N : Nat) {R : Type} (s1 : ByteArray) (n : Int) (n1 : Int) (AG : List (Option AV) → Hp E → Option R) (KL : Ex → List (Option AV) → Hp E → Option R) :
    iterStep (E := E) (O_impl_ytableName N) (fun {R} => LI (noIt) 0 23 sl_impl_ytableName (R := R)) J_impl_ytableName 0 23 0 [0, 5, 6] [0, 2] (body Go.Proofs.Try.f154 0) AG KL [(Option.some (Go.Eng.AV.sc (Go.Eng.SV.str s1))), (Option.some (Go.Eng.AV.sc (Go.Eng.SV.int Go.IntKind.i64 n))), (Option.some (Go.Eng.AV.sc (Go.Eng.SV.int Go.IntKind.i64 n1)))] [] =
      s_impl_ytableName_0 N s1 n n1 (fun n1 => AG [(Option.some (Go.Eng.AV.sc (Go.Eng.SV.str s1))), (Option.some (Go.Eng.AV.sc (Go.Eng.SV.int Go.IntKind.i64 n))), (Option.some (Go.Eng.AV.sc (Go.Eng.SV.int Go.IntKind.i64 n1)))] [])  (KL Go.Eng.Ex.ret [(Option.some (Go.Eng.AV.sc (Go.Eng.SV.str s1))), (Option.some (Go.Eng.AV.sc (Go.Eng.SV.bool Bool.false)))] []) (KL Go.Eng.Ex.normal [(Option.some (Go.Eng.AV.sc (Go.Eng.SV.str s1))), Option.none] []) := by kernel_rfl
theorem le_impl_ytableName_0 (N : Nat) {R : Type} (s1 : ByteArray) (n : Int) (KL : Ex → List (Option AV) → Hp E → Option R) : ∀ (f : Nat), ∀ (n1 : Int), iterK (E := E) (O_impl_ytableName N) (fun {R} => LI (noIt) 0 23 sl_impl_ytableName (R := R)) J_impl_ytableName 0 23 0 [0, 5, 6] [0, 2] (body Go.Proofs.Try.f154 0) f [(Option.some (Go.Eng.AV.sc (Go.Eng.SV.str s1))), (Option.some (Go.Eng.AV.sc (Go.Eng.SV.int Go.IntKind.i64 n))), (Option.some (Go.Eng.AV.sc (Go.Eng.SV.int Go.IntKind.i64 n1)))] [] KL = l_impl_ytableName_0 N s1 n (KL Go.Eng.Ex.ret [(Option.some (Go.Eng.AV.sc (Go.Eng.SV.str s1))), (Option.some (Go.Eng.AV.sc (Go.Eng.SV.bool Bool.false)))] []) (KL Go.Eng.Ex.normal [(Option.some (Go.Eng.AV.sc (Go.Eng.SV.str s1))), Option.none] []) f n1 := by
  intro f
  induction f with
  | zero => intros; rfl
  | succ f ih =>
    intro n1
    rw [iterK_succ, se_impl_ytableName_0]
    exact (congrArg (fun z0 => s_impl_ytableName_0 N s1 n n1 z0 (KL Go.Eng.Ex.ret [(Option.some (Go.Eng.AV.sc (Go.Eng.SV.str s1))), (Option.some (Go.Eng.AV.sc (Go.Eng.SV.bool Bool.false)))] []) (KL Go.Eng.Ex.normal [(Option.some (Go.Eng.AV.sc (Go.Eng.SV.str s1))), Option.none] [])) (funext fun n1 => ih n1))
def i_impl_ytableName_0 (N : Nat) {R : Type} (vs : List (Option AV)) (H : Hp E) (KL : Ex → List (Option AV) → Hp E → Option R) : Option R :=
  match vs, H with
  | [(Option.some (Go.Eng.AV.sc (Go.Eng.SV.str s1))), (Option.some (Go.Eng.AV.sc (Go.Eng.SV.int Go.IntKind.i64 n))), (Option.some (Go.Eng.AV.sc (Go.Eng.SV.int Go.IntKind.i64 n1)))], [] => c_impl_ytableName_0 N s1 n n1 (KL Go.Eng.Ex.ret [(Option.some (Go.Eng.AV.sc (Go.Eng.SV.str s1))), (Option.some (Go.Eng.AV.sc (Go.Eng.SV.bool Bool.false)))] []) (KL Go.Eng.Ex.normal [(Option.some (Go.Eng.AV.sc (Go.Eng.SV.str s1))), Option.none] [])
  | _, _ => none
noncomputable def IT_impl_ytableName_0 (N : Nat) : Its E := addIt 0 (i_impl_ytableName_0 N) (noIt)
theorem IT_impl_ytableName_0_ok (N : Nat) : ItOk (IT_impl_ytableName_0 N) 0 23 sl_impl_ytableName (lsB Go.Proofs.Try.f154 [0]) :=
  addItB_ok (inner := []) ok (O_impl_ytableName_ok N) (jn_ok _ _ _) (noIt_ok) rfl (by kernel_rfl) rfl fun vs H KL r h => by
    unfold i_impl_ytableName_0 at h
    split at h
    · exact ⟨_, (le_impl_ytableName_0 N _ _ KL N _).trans h⟩
    · cases h
def g_impl_ytableName (N : Nat) {R : Type} (s : ByteArray) (k : Bool → Option R) : Option R :=
  (c_impl_ytableName_0 N s (((ByteArray.size s) : Nat) : Int) (0 : Int) (
  (k Bool.false)) (
  (k ((((ByteArray.size s) : Nat) : Int) == (4 : Int)))))
theorem e_impl_ytableName (N : Nat) {R : Type} (s : ByteArray) (K : AV → Hp E → Option R) :
    runFnI (E := E) (O_impl_ytableName N) (IT_impl_ytableName_0 N) sl_impl_ytableName J_impl_ytableName Go.Proofs.Try.f154 [(Go.Eng.AV.sc (Go.Eng.SV.str s))] [] K =
      g_impl_ytableName N s (fun b => K (Go.Eng.AV.sc (Go.Eng.SV.bool b)) []) := by kernel_rfl
def o_impl_ytableName (N : Nat) {R : Type} (args : List AV) (H : Hp E) (K : AV → Hp E → Option R) : Option R :=
  match args, H with
  | [(Go.Eng.AV.sc (Go.Eng.SV.str s))], [] => g_impl_ytableName N s (fun b => K (Go.Eng.AV.sc (Go.Eng.SV.bool b)) [])
  | _, _ => none
theorem o_impl_ytableName_ok (N : Nat) : FnOk E 154 (o_impl_ytableName N) := by
  intro R args H K r h
  unfold o_impl_ytableName at h
  dsimp only at h
  split at h
  · exact fnB_ok (ids := [0]) (top := [0]) ok (O_impl_ytableName_ok N) (jn_ok _ _ _) Go.Proofs.Try.func154 (by kernel_rfl) (IT := IT_impl_ytableName_0 N) (sl := sl_impl_ytableName) (J := J_impl_ytableName) (K := K) (H := []) (IT_impl_ytableName_0_ok N) (by kernel_rfl) rfl ((e_impl_ytableName N _ K).trans h)
  · cases h
/-! ### loop.example/g00038/impl.yin -/
abbrev sl_impl_yin : SlotT := []
abbrev J_impl_yin : JT := jn [(1, [(6, .b)])] [] []
noncomputable def O_impl_yin (N : Nat) : Orc E := noFn
theorem O_impl_yin_ok (N : Nat) : OrcOk (O_impl_yin N) := noFn_ok
def g_impl_yin (N : Nat) {R : Type} (n : Int) (n1 : Int) (n2 : Int) (k : Bool → Option R) : Option R :=
  (oK (cond (decide ((n ≥ n1)))
    (some (decide ((n ≤ n2))))
    (some Bool.false)) fun j =>
  (k j))
theorem e_impl_yin (N : Nat) {R : Type} (n : Int) (n1 : Int) (n2 : Int) (K : AV → Hp E → Option R) :
    runFnI (E := E) (O_impl_yin N) (noIt) sl_impl_yin J_impl_yin Go.Proofs.Try.f96 [(Go.Eng.AV.sc (Go.Eng.SV.int Go.IntKind.i64 n)), (Go.Eng.AV.sc (Go.Eng.SV.int Go.IntKind.i64 n1)), (Go.Eng.AV.sc (Go.Eng.SV.int Go.IntKind.i64 n2))] [] K =
      g_impl_yin N n n1 n2 (fun b => K (Go.Eng.AV.sc (Go.Eng.SV.bool b)) []) := by kernel_rfl
def o_impl_yin (N : Nat) {R : Type} (args : List AV) (H : Hp E) (K : AV → Hp E → Option R) : Option R :=
  match args, H with
  | [(Go.Eng.AV.sc (Go.Eng.SV.int Go.IntKind.i64 n)), (Go.Eng.AV.sc (Go.Eng.SV.int Go.IntKind.i64 n1)), (Go.Eng.AV.sc (Go.Eng.SV.int Go.IntKind.i64 n2))], [] => g_impl_yin N n n1 n2 (fun b => K (Go.Eng.AV.sc (Go.Eng.SV.bool b)) [])
  | _, _ => none
theorem o_impl_yin_ok (N : Nat) : FnOk E 96 (o_impl_yin N) := by
  intro R args H K r h
  unfold o_impl_yin at h
  dsimp only at h
  split at h
  · exact fnB_ok (ids := []) (top := []) ok (O_impl_yin_ok N) (jn_ok _ _ _) Go.Proofs.Try.func96 (by kernel_rfl) (IT := noIt) (sl := sl_impl_yin) (J := J_impl_yin) (K := K) (H := []) (noIt_ok) (by kernel_rfl) rfl ((e_impl_yin N _ _ _ K).trans h)
  · cases h
/-! ### loop.example/g00038/impl.ytableOk -/
abbrev sl_impl_ytableOk : SlotT := []
abbrev J_impl_ytableOk : JT := jn [(1, [(2, .b)])] [] []
noncomputable def O_impl_ytableOk (N : Nat) : Orc E := addFn 96 (o_impl_yin N) (addFn 154 (o_impl_ytableName N) (noFn))
theorem O_impl_ytableOk_ok (N : Nat) : OrcOk (O_impl_ytableOk N) := addFn_ok (o_impl_yin_ok N) (addFn_ok (o_impl_ytableName_ok N) (noFn_ok))
def g_impl_ytableOk (N : Nat) {R : Type} (s : ByteArray) (n : Int) (s1 : ByteArray) (k : Bool → Option R) : Option R :=
  (oK (g_impl_ytableName N s fun b =>
    (cond b
    (g_impl_yin N n (0 : Int) (255 : Int) fun b1 =>
      (cond b1
      (cond (decide (((((ByteArray.size s1) : Nat) : Int) ≤ (200 : Int))))
        (some ((Int.tmod (((ByteArray.size s1) : Nat) : Int) (4 : Int)) == (0 : Int)))
        (some Bool.false))
      (some Bool.false)))
    (some Bool.false))) fun j =>
  (k j))
theorem e_impl_ytableOk (N : Nat) {R : Type} (s : ByteArray) (n : Int) (s1 : ByteArray) (K : AV → Hp E → Option R) :
    runFnI (E := E) (O_impl_ytableOk N) (noIt) sl_impl_ytableOk J_impl_ytableOk Go.Proofs.Try.f84 [(Go.Eng.AV.agg [(Go.Eng.SV.str s), (Go.Eng.SV.int Go.IntKind.i64 n), (Go.Eng.SV.str s1)])] [] K =
      g_impl_ytableOk N s n s1 (fun b2 => K (Go.Eng.AV.sc (Go.Eng.SV.bool b2)) []) := by kernel_rfl
def o_impl_ytableOk (N : Nat) {R : Type} (args : List AV) (H : Hp E) (K : AV → Hp E → Option R) : Option R :=
  match args, H with
  | [(Go.Eng.AV.agg [(Go.Eng.SV.str s), (Go.Eng.SV.int Go.IntKind.i64 n), (Go.Eng.SV.str s1)])], [] => g_impl_ytableOk N s n s1 (fun b2 => K (Go.Eng.AV.sc (Go.Eng.SV.bool b2)) [])
  | _, _ => none
theorem o_impl_ytableOk_ok (N : Nat) : FnOk E 84 (o_impl_ytableOk N) := by
  intro R args H K r h
  unfold o_impl_ytableOk at h
  dsimp only at h
  split at h
  · exact fnB_ok (ids := []) (top := []) ok (O_impl_ytableOk_ok N) (jn_ok _ _ _) Go.Proofs.Try.func84 (by kernel_rfl) (IT := noIt) (sl := sl_impl_ytableOk) (J := J_impl_ytableOk) (K := K) (H := []) (noIt_ok) (by kernel_rfl) rfl ((e_impl_ytableOk N _ _ _ K).trans h)
  · cases h
/-! ### loop.example/g00038/impl.PutTables$1 -/
abbrev sl_impl_PutTables_1 : SlotT := []
abbrev J_impl_PutTables_1 : JT := jn [] [] []
noncomputable def O_impl_PutTables_1 (N : Nat) : Orc E := addFn 84 (o_impl_ytableOk N) (noFn)
theorem O_impl_PutTables_1_ok (N : Nat) : OrcOk (O_impl_PutTables_1 N) := addFn_ok (o_impl_ytableOk_ok N) (noFn_ok)
def g_impl_PutTables_1 (N : Nat) {R : Type} (s : ByteArray) (n : Int) (s1 : ByteArray) (k : Bool → Option R) : Option R :=
  (g_impl_ytableOk N s n s1 fun b =>
  (k (!b)))
theorem e_impl_PutTables_1 (N : Nat) {R : Type} (s : ByteArray) (n : Int) (s1 : ByteArray) (K : AV → Hp E → Option R) :
    runFnI (E := E) (O_impl_PutTables_1 N) (noIt) sl_impl_PutTables_1 J_impl_PutTables_1 Go.Proofs.Try.f105 [(Go.Eng.AV.agg [(Go.Eng.SV.str s), (Go.Eng.SV.int Go.IntKind.i64 n), (Go.Eng.SV.str s1)])] [] K =
      g_impl_PutTables_1 N s n s1 (fun b1 => K (Go.Eng.AV.sc (Go.Eng.SV.bool b1)) []) := by kernel_rfl
def o_impl_PutTables_1 (N : Nat) {R : Type} (args : List AV) (H : Hp E) (K : AV → Hp E → Option R) : Option R :=
  match args, H with
  | [(Go.Eng.AV.agg [(Go.Eng.SV.str s), (Go.Eng.SV.int Go.IntKind.i64 n), (Go.Eng.SV.str s1)])], [] => g_impl_PutTables_1 N s n s1 (fun b1 => K (Go.Eng.AV.sc (Go.Eng.SV.bool b1)) [])
  | _, _ => none
theorem o_impl_PutTables_1_ok (N : Nat) : FnOk E 105 (o_impl_PutTables_1 N) := by
  intro R args H K r h
  unfold o_impl_PutTables_1 at h
  dsimp only at h
  split at h
  · exact fnB_ok (ids := []) (top := []) ok (O_impl_PutTables_1_ok N) (jn_ok _ _ _) Go.Proofs.Try.func105 (by kernel_rfl) (IT := noIt) (sl := sl_impl_PutTables_1) (J := J_impl_PutTables_1) (K := K) (H := []) (noIt_ok) (by kernel_rfl) rfl ((e_impl_PutTables_1 N _ _ _ K).trans h)
  · cases h
/-! ### slices.IndexFunc[[]loop.example/g00038/impl.FirmTable,loop.example/g00038/impl.FirmTable] -/
abbrev sl_slices_IndexFunc_FirmTable_Fimpl_PutTables_1_r : SlotT := [(0, ([0, 1, 7, 8], [4]))]
abbrev J_slices_IndexFunc_FirmTable_Fimpl_PutTables_1_r : JT := jn [] [] []
noncomputable def O_slices_IndexFunc_FirmTable_Fimpl_PutTables_1_r (N : Nat) : Orc E := addFn 105 (o_impl_PutTables_1 N) (noFn)
theorem O_slices_IndexFunc_FirmTable_Fimpl_PutTables_1_r_ok (N : Nat) : OrcOk (O_slices_IndexFunc_FirmTable_Fimpl_PutTables_1_r N) := addFn_ok (o_impl_PutTables_1_ok N) (noFn_ok)
def s_slices_IndexFunc_FirmTable_Fimpl_PutTables_1_r_0 (N : Nat) {R : Type} (b1 : Bool) (n : Int) (l1 : List Go.Sa.FirmTable) (n1 : Int) (ag : Int → Option R)  (kR : Int → Option R) (kN : Option R) : Option R :=
  (cond (decide ((n1 < n)))
  (cond ((decide (((0 : Int) ≤ n1))) && (decide ((n1 < (((List.length l1) : Nat) : Int)))))
    (elemK l1 (Int.toNat n1) fun x =>
      (g_impl_PutTables_1 N (Go.Sa.FirmTable.fName x) (Go.Sa.FirmTable.fRev x) (Go.Sa.FirmTable.fBody x) fun b2 =>
      (cond b2
      (kR n1)
      (ag (Go.IntKind.wrap Go.IntKind.i64 (n1 + (1 : Int)))))))
    none)
  kN)
def l_slices_IndexFunc_FirmTable_Fimpl_PutTables_1_r_0 (N : Nat) {R : Type} (b1 : Bool) (n : Int) (l1 : List Go.Sa.FirmTable) (kR : Int → Option R) (kN : Option R) : Nat → Int → Option R
  | 0, _ => none
  | f + 1, n1 => s_slices_IndexFunc_FirmTable_Fimpl_PutTables_1_r_0 N b1 n l1 n1 (fun n1 => l_slices_IndexFunc_FirmTable_Fimpl_PutTables_1_r_0 N b1 n l1 kR kN f n1)  kR kN
def c_slices_IndexFunc_FirmTable_Fimpl_PutTables_1_r_0 (N : Nat) {R : Type} (b1 : Bool) (n : Int) (l1 : List Go.Sa.FirmTable) (n1 : Int) (kR : Int → Option R) (kN : Option R) : Option R := l_slices_IndexFunc_FirmTable_Fimpl_PutTables_1_r_0 N b1 n l1 kR kN N n1
theorem se_slices_IndexFunc_FirmTable_Fimpl_PutTables_1_r_0 (N : Nat) {R : Type} (b1 : Bool) (n : Int) (l1 : List Go.Sa.FirmTable) (n1 : Int) (AG : List (Option AV) → Hp E → Option R) (KL : Ex → List (Option AV) → Hp E → Option R) :
    iterStep (E := E) (O_slices_IndexFunc_FirmTable_Fimpl_PutTables_1_r N) (fun {R} => LI (noIt) 1 19 sl_slices_IndexFunc_FirmTable_Fimpl_PutTables_1_r (R := R)) J_slices_IndexFunc_FirmTable_Fimpl_PutTables_1_r 1 19 0 [0, 1, 7, 8] [4] (body Go.Proofs.Try.f153 0) AG KL [(Option.some (Go.Eng.AV.sc (Go.Eng.SV.slc 0 Option.none b1))), (Option.some (Go.Eng.AV.sc (Go.Eng.SV.fn 105 []))), (Option.some (Go.Eng.AV.sc (Go.Eng.SV.int Go.IntKind.i64 n))), (Option.some (Go.Eng.AV.sc (Go.Eng.SV.int Go.IntKind.i64 n1)))] [(Option.some (Go.Eng.HE.mk Bool.true (Go.Eng.HB.rows (Go.Sa.B.iFirmTable l1))))] =
      s_slices_IndexFunc_FirmTable_Fimpl_PutTables_1_r_0 N b1 n l1 n1 (fun n1 => AG [(Option.some (Go.Eng.AV.sc (Go.Eng.SV.slc 0 Option.none b1))), (Option.some (Go.Eng.AV.sc (Go.Eng.SV.fn 105 []))), (Option.some (Go.Eng.AV.sc (Go.Eng.SV.int Go.IntKind.i64 n))), (Option.some (Go.Eng.AV.sc (Go.Eng.SV.int Go.IntKind.i64 n1)))] [(Option.some (Go.Eng.HE.mk Bool.true (Go.Eng.HB.rows (Go.Sa.B.iFirmTable l1))))])  (fun n4 => KL Go.Eng.Ex.ret [(Option.some (Go.Eng.AV.sc (Go.Eng.SV.int Go.IntKind.i64 n4)))] [(Option.some (Go.Eng.HE.mk Bool.true (Go.Eng.HB.rows (Go.Sa.B.iFirmTable l1))))]) (KL Go.Eng.Ex.normal [Option.none] [(Option.some (Go.Eng.HE.mk Bool.true (Go.Eng.HB.rows (Go.Sa.B.iFirmTable l1))))]) := by kernel_rfl
theorem le_slices_IndexFunc_FirmTable_Fimpl_PutTables_1_r_0 (N : Nat) {R : Type} (b1 : Bool) (n : Int) (l1 : List Go.Sa.FirmTable) (KL : Ex → List (Option AV) → Hp E → Option R) : ∀ (f : Nat), ∀ (n1 : Int), iterK (E := E) (O_slices_IndexFunc_FirmTable_Fimpl_PutTables_1_r N) (fun {R} => LI (noIt) 1 19 sl_slices_IndexFunc_FirmTable_Fimpl_PutTables_1_r (R := R)) J_slices_IndexFunc_FirmTable_Fimpl_PutTables_1_r 1 19 0 [0, 1, 7, 8] [4] (body Go.Proofs.Try.f153 0) f [(Option.some (Go.Eng.AV.sc (Go.Eng.SV.slc 0 Option.none b1))), (Option.some (Go.Eng.AV.sc (Go.Eng.SV.fn 105 []))), (Option.some (Go.Eng.AV.sc (Go.Eng.SV.int Go.IntKind.i64 n))), (Option.some (Go.Eng.AV.sc (Go.Eng.SV.int Go.IntKind.i64 n1)))] [(Option.some (Go.Eng.HE.mk Bool.true (Go.Eng.HB.rows (Go.Sa.B.iFirmTable l1))))] KL = l_slices_IndexFunc_FirmTable_Fimpl_PutTables_1_r_0 N b1 n l1 (fun n4 => KL Go.Eng.Ex.ret [(Option.some (Go.Eng.AV.sc (Go.Eng.SV.int Go.IntKind.i64 n4)))] [(Option.some (Go.Eng.HE.mk Bool.true (Go.Eng.HB.rows (Go.Sa.B.iFirmTable l1))))]) (KL Go.Eng.Ex.normal [Option.none] [(Option.some (Go.Eng.HE.mk Bool.true (Go.Eng.HB.rows (Go.Sa.B.iFirmTable l1))))]) f n1 := by
  intro f
  induction f with
  | zero => intros; rfl
  | succ f ih =>
    intro n1
    rw [iterK_succ, se_slices_IndexFunc_FirmTable_Fimpl_PutTables_1_r_0]
    exact (congrArg (fun z0 => s_slices_IndexFunc_FirmTable_Fimpl_PutTables_1_r_0 N b1 n l1 n1 z0 (fun n4 => KL Go.Eng.Ex.ret [(Option.some (Go.Eng.AV.sc (Go.Eng.SV.int Go.IntKind.i64 n4)))] [(Option.some (Go.Eng.HE.mk Bool.true (Go.Eng.HB.rows (Go.Sa.B.iFirmTable l1))))]) (KL Go.Eng.Ex.normal [Option.none] [(Option.some (Go.Eng.HE.mk Bool.true (Go.Eng.HB.rows (Go.Sa.B.iFirmTable l1))))])) (funext fun n1 => ih n1))
def i_slices_IndexFunc_FirmTable_Fimpl_PutTables_1_r_0 (N : Nat) {R : Type} (vs : List (Option AV)) (H : Hp E) (KL : Ex → List (Option AV) → Hp E → Option R) : Option R :=
  match vs, H with
  | [(Option.some (Go.Eng.AV.sc (Go.Eng.SV.slc 0 Option.none b1))), (Option.some (Go.Eng.AV.sc (Go.Eng.SV.fn 105 []))), (Option.some (Go.Eng.AV.sc (Go.Eng.SV.int Go.IntKind.i64 n))), (Option.some (Go.Eng.AV.sc (Go.Eng.SV.int Go.IntKind.i64 n1)))], [(Option.some (Go.Eng.HE.mk Bool.true (Go.Eng.HB.rows (Go.Sa.B.iFirmTable l1))))] => c_slices_IndexFunc_FirmTable_Fimpl_PutTables_1_r_0 N b1 n l1 n1 (fun n5 => KL Go.Eng.Ex.ret [(Option.some (Go.Eng.AV.sc (Go.Eng.SV.int Go.IntKind.i64 n5)))] [(Option.some (Go.Eng.HE.mk Bool.true (Go.Eng.HB.rows (Go.Sa.B.iFirmTable l1))))]) (KL Go.Eng.Ex.normal [Option.none] [(Option.some (Go.Eng.HE.mk Bool.true (Go.Eng.HB.rows (Go.Sa.B.iFirmTable l1))))])
  | _, _ => none
noncomputable def IT_slices_IndexFunc_FirmTable_Fimpl_PutTables_1_r_0 (N : Nat) : Its E := addIt 0 (i_slices_IndexFunc_FirmTable_Fimpl_PutTables_1_r_0 N) (noIt)
theorem IT_slices_IndexFunc_FirmTable_Fimpl_PutTables_1_r_0_ok (N : Nat) : ItOk (IT_slices_IndexFunc_FirmTable_Fimpl_PutTables_1_r_0 N) 1 19 sl_slices_IndexFunc_FirmTable_Fimpl_PutTables_1_r (lsB Go.Proofs.Try.f153 [0]) :=
  addItB_ok (inner := []) ok (O_slices_IndexFunc_FirmTable_Fimpl_PutTables_1_r_ok N) (jn_ok _ _ _) (noIt_ok) rfl (by kernel_rfl) rfl fun vs H KL r h => by
    unfold i_slices_IndexFunc_FirmTable_Fimpl_PutTables_1_r_0 at h
    split at h
    · exact ⟨_, (le_slices_IndexFunc_FirmTable_Fimpl_PutTables_1_r_0 N _ _ _ KL N _).trans h⟩
    · cases h
def g_slices_IndexFunc_FirmTable_Fimpl_PutTables_1_r (N : Nat) {R : Type} (b : Bool) (l : List Go.Sa.FirmTable) (k : Int → Option R) : Option R :=
  (c_slices_IndexFunc_FirmTable_Fimpl_PutTables_1_r_0 N b (((List.length l) : Nat) : Int) l (0 : Int) (fun n2 =>
  (k n2)) (
  (k (-(1 : Int)))))
theorem e_slices_IndexFunc_FirmTable_Fimpl_PutTables_1_r (N : Nat) {R : Type} (b : Bool) (l : List Go.Sa.FirmTable) (K : AV → Hp E → Option R) :
    runFnI (E := E) (O_slices_IndexFunc_FirmTable_Fimpl_PutTables_1_r N) (IT_slices_IndexFunc_FirmTable_Fimpl_PutTables_1_r_0 N) sl_slices_IndexFunc_FirmTable_Fimpl_PutTables_1_r J_slices_IndexFunc_FirmTable_Fimpl_PutTables_1_r Go.Proofs.Try.f153 [(Go.Eng.AV.sc (Go.Eng.SV.slc 0 Option.none b)), (Go.Eng.AV.sc (Go.Eng.SV.fn 105 []))] [(Option.some (Go.Eng.HE.mk Bool.true (Go.Eng.HB.rows (Go.Sa.B.iFirmTable l))))] K =
      g_slices_IndexFunc_FirmTable_Fimpl_PutTables_1_r N b l (fun n3 => K (Go.Eng.AV.sc (Go.Eng.SV.int Go.IntKind.i64 n3)) [(Option.some (Go.Eng.HE.mk Bool.true (Go.Eng.HB.rows (Go.Sa.B.iFirmTable l))))]) := by kernel_rfl
def o_slices_IndexFunc_FirmTable_Fimpl_PutTables_1_r (N : Nat) {R : Type} (args : List AV) (H : Hp E) (K : AV → Hp E → Option R) : Option R :=
  match args, H with
  | [(Go.Eng.AV.sc (Go.Eng.SV.slc 0 Option.none b)), (Go.Eng.AV.sc (Go.Eng.SV.fn 105 []))], [(Option.some (Go.Eng.HE.mk Bool.true (Go.Eng.HB.rows (Go.Sa.B.iFirmTable l))))] => g_slices_IndexFunc_FirmTable_Fimpl_PutTables_1_r N b l (fun n3 => K (Go.Eng.AV.sc (Go.Eng.SV.int Go.IntKind.i64 n3)) [(Option.some (Go.Eng.HE.mk Bool.true (Go.Eng.HB.rows (Go.Sa.B.iFirmTable l))))])
  | _, _ => none
theorem o_slices_IndexFunc_FirmTable_Fimpl_PutTables_1_r_ok (N : Nat) : FnOk E 153 (o_slices_IndexFunc_FirmTable_Fimpl_PutTables_1_r N) := by
  intro R args H K r h
  unfold o_slices_IndexFunc_FirmTable_Fimpl_PutTables_1_r at h
  dsimp only at h
  split at h
  · exact fnB_ok (ids := [0]) (top := [0]) ok (O_slices_IndexFunc_FirmTable_Fimpl_PutTables_1_r_ok N) (jn_ok _ _ _) Go.Proofs.Try.func153 (by kernel_rfl) (IT := IT_slices_IndexFunc_FirmTable_Fimpl_PutTables_1_r_0 N) (sl := sl_slices_IndexFunc_FirmTable_Fimpl_PutTables_1_r) (J := J_slices_IndexFunc_FirmTable_Fimpl_PutTables_1_r) (K := K) (H := [(Option.some (Go.Eng.HE.mk Bool.true (Go.Eng.HB.rows (Go.Sa.B.iFirmTable _))))]) (IT_slices_IndexFunc_FirmTable_Fimpl_PutTables_1_r_0_ok N) (by kernel_rfl) rfl ((e_slices_IndexFunc_FirmTable_Fimpl_PutTables_1_r N _ _ K).trans h)
  · cases h
/-! ### slices.ContainsFunc[[]loop.example/g00038/impl.FirmTable,loop.example/g00038/impl.FirmTable] -/
abbrev sl_slices_ContainsFunc_FirmTable_Fimpl_PutTables_1_r : SlotT := []
abbrev J_slices_ContainsFunc_FirmTable_Fimpl_PutTables_1_r : JT := jn [] [] []
noncomputable def O_slices_ContainsFunc_FirmTable_Fimpl_PutTables_1_r (N : Nat) : Orc E := addFn 153 (o_slices_IndexFunc_FirmTable_Fimpl_PutTables_1_r N) (noFn)
theorem O_slices_ContainsFunc_FirmTable_Fimpl_PutTables_1_r_ok (N : Nat) : OrcOk (O_slices_ContainsFunc_FirmTable_Fimpl_PutTables_1_r N) := addFn_ok (o_slices_IndexFunc_FirmTable_Fimpl_PutTables_1_r_ok N) (noFn_ok)
def g_slices_ContainsFunc_FirmTable_Fimpl_PutTables_1_r (N : Nat) {R : Type} (b : Bool) (l : List Go.Sa.FirmTable) (k : Bool → Option R) : Option R :=
  (g_slices_IndexFunc_FirmTable_Fimpl_PutTables_1_r N b l fun n =>
  (k (decide ((n ≥ (0 : Int))))))
theorem e_slices_ContainsFunc_FirmTable_Fimpl_PutTables_1_r (N : Nat) {R : Type} (b : Bool) (l : List Go.Sa.FirmTable) (K : AV → Hp E → Option R) :
    runFnI (E := E) (O_slices_ContainsFunc_FirmTable_Fimpl_PutTables_1_r N) (noIt) sl_slices_ContainsFunc_FirmTable_Fimpl_PutTables_1_r J_slices_ContainsFunc_FirmTable_Fimpl_PutTables_1_r Go.Proofs.Try.f82 [(Go.Eng.AV.sc (Go.Eng.SV.slc 0 Option.none b)), (Go.Eng.AV.sc (Go.Eng.SV.fn 105 []))] [(Option.some (Go.Eng.HE.mk Bool.true (Go.Eng.HB.rows (Go.Sa.B.iFirmTable l))))] K =
      g_slices_ContainsFunc_FirmTable_Fimpl_PutTables_1_r N b l (fun b1 => K (Go.Eng.AV.sc (Go.Eng.SV.bool b1)) [(Option.some (Go.Eng.HE.mk Bool.true (Go.Eng.HB.rows (Go.Sa.B.iFirmTable l))))]) := by kernel_rfl
def o_slices_ContainsFunc_FirmTable_Fimpl_PutTables_1_r (N : Nat) {R : Type} (args : List AV) (H : Hp E) (K : AV → Hp E → Option R) : Option R :=
  match args, H with
  | [(Go.Eng.AV.sc (Go.Eng.SV.slc 0 Option.none b)), (Go.Eng.AV.sc (Go.Eng.SV.fn 105 []))], [(Option.some (Go.Eng.HE.mk Bool.true (Go.Eng.HB.rows (Go.Sa.B.iFirmTable l))))] => g_slices_ContainsFunc_FirmTable_Fimpl_PutTables_1_r N b l (fun b1 => K (Go.Eng.AV.sc (Go.Eng.SV.bool b1)) [(Option.some (Go.Eng.HE.mk Bool.true (Go.Eng.HB.rows (Go.Sa.B.iFirmTable l))))])
  | _, _ => none
theorem o_slices_ContainsFunc_FirmTable_Fimpl_PutTables_1_r_ok (N : Nat) : FnOk E 82 (o_slices_ContainsFunc_FirmTable_Fimpl_PutTables_1_r N) := by
  intro R args H K r h
  unfold o_slices_ContainsFunc_FirmTable_Fimpl_PutTables_1_r at h
  dsimp only at h
  split at h
  · exact fnB_ok (ids := []) (top := []) ok (O_slices_ContainsFunc_FirmTable_Fimpl_PutTables_1_r_ok N) (jn_ok _ _ _) Go.Proofs.Try.func82 (by kernel_rfl) (IT := noIt) (sl := sl_slices_ContainsFunc_FirmTable_Fimpl_PutTables_1_r) (J := J_slices_ContainsFunc_FirmTable_Fimpl_PutTables_1_r) (K := K) (H := [(Option.some (Go.Eng.HE.mk Bool.true (Go.Eng.HB.rows (Go.Sa.B.iFirmTable _))))]) (noIt_ok) (by kernel_rfl) rfl ((e_slices_ContainsFunc_FirmTable_Fimpl_PutTables_1_r N _ _ K).trans h)
  · cases h
/-! ### loop.example/g00038/impl.PutWord -/
abbrev sl_impl_PutWord : SlotT := []
abbrev J_impl_PutWord : JT := jn [] [] []
noncomputable def O_impl_PutWord (N : Nat) : Orc E := noFn
theorem O_impl_PutWord_ok (N : Nat) : OrcOk (O_impl_PutWord N) := noFn_ok
def g_impl_PutWord (N : Nat) {R : Type} (n : Int) (k : ByteArray → Option R) : Option R :=
  (k (Go.Eng.toBytes (Go.Eng.seg [(Go.IntKind.wrap Go.IntKind.u8 (Go.IntKind.wrap Go.IntKind.u32 n)), (Go.IntKind.wrap Go.IntKind.u8 (Int.fdiv (Go.IntKind.wrap Go.IntKind.u32 n) (256 : Int))), (Go.IntKind.wrap Go.IntKind.u8 (Int.fdiv (Go.IntKind.wrap Go.IntKind.u32 n) (65536 : Int))), (Go.IntKind.wrap Go.IntKind.u8 (Int.fdiv (Go.IntKind.wrap Go.IntKind.u32 n) (16777216 : Int)))] 0 (List.length [(Go.IntKind.wrap Go.IntKind.u8 (Go.IntKind.wrap Go.IntKind.u32 n)), (Go.IntKind.wrap Go.IntKind.u8 (Int.fdiv (Go.IntKind.wrap Go.IntKind.u32 n) (256 : Int))), (Go.IntKind.wrap Go.IntKind.u8 (Int.fdiv (Go.IntKind.wrap Go.IntKind.u32 n) (65536 : Int))), (Go.IntKind.wrap Go.IntKind.u8 (Int.fdiv (Go.IntKind.wrap Go.IntKind.u32 n) (16777216 : Int)))]))))
theorem e_impl_PutWord (N : Nat) {R : Type} (n : Int) (K : AV → Hp E → Option R) :
    runFnI (E := E) (O_impl_PutWord N) (noIt) sl_impl_PutWord J_impl_PutWord Go.Proofs.Try.f106 [(Go.Eng.AV.sc (Go.Eng.SV.int Go.IntKind.i64 n))] [] K =
      g_impl_PutWord N n (fun s => K (Go.Eng.AV.sc (Go.Eng.SV.str s)) []) := by kernel_rfl
def o_impl_PutWord (N : Nat) {R : Type} (args : List AV) (H : Hp E) (K : AV → Hp E → Option R) : Option R :=
  match args, H with
  | [(Go.Eng.AV.sc (Go.Eng.SV.int Go.IntKind.i64 n))], [] => g_impl_PutWord N n (fun s => K (Go.Eng.AV.sc (Go.Eng.SV.str s)) [])
  | _, _ => none
theorem o_impl_PutWord_ok (N : Nat) : FnOk E 106 (o_impl_PutWord N) := by
  intro R args H K r h
  unfold o_impl_PutWord at h
  dsimp only at h
  split at h
  · exact fnB_ok (ids := []) (top := []) ok (O_impl_PutWord_ok N) (jn_ok _ _ _) Go.Proofs.Try.func106 (by kernel_rfl) (IT := noIt) (sl := sl_impl_PutWord) (J := J_impl_PutWord) (K := K) (H := []) (noIt_ok) (by kernel_rfl) rfl ((e_impl_PutWord N _ K).trans h)
  · cases h
/-! ### loop.example/g00038/impl.ybyteSum -/
abbrev sl_impl_ybyteSum : SlotT := [(0, ([0, 3, 6, 7], [3]))]
abbrev J_impl_ybyteSum : JT := jn [] [] []
noncomputable def O_impl_ybyteSum (N : Nat) : Orc E := noFn
theorem O_impl_ybyteSum_ok (N : Nat) : OrcOk (O_impl_ybyteSum N) := noFn_ok
def s_impl_ybyteSum_0 (N : Nat) {R : Type} (s1 : ByteArray) (n1 : Int) (n : Int) (n2 : Int) (ag : Int → Int → Option R)  (kN : Int → Option R) : Option R :=
  (cond (decide ((n2 < n1)))
  (cond ((decide (((0 : Int) ≤ n2))) && (decide ((n2 < (((ByteArray.size s1) : Nat) : Int)))))
    (ag (Go.IntKind.wrap Go.IntKind.i64 (n + (Go.IntKind.wrap Go.IntKind.i64 (Go.Eng.bt s1 (Int.toNat n2))))) (Go.IntKind.wrap Go.IntKind.i64 (n2 + (1 : Int))))
    none)
  (kN n))
def l_impl_ybyteSum_0 (N : Nat) {R : Type} (s1 : ByteArray) (n1 : Int) (kN : Int → Option R) : Nat → Int → Int → Option R
  | 0, _, _ => none
  | f + 1, n, n2 => s_impl_ybyteSum_0 N s1 n1 n n2 (fun n n2 => l_impl_ybyteSum_0 N s1 n1 kN f n n2)  kN
def c_impl_ybyteSum_0 (N : Nat) {R : Type} (s1 : ByteArray) (n1 : Int) (n : Int) (n2 : Int) (kN : Int → Option R) : Option R := l_impl_ybyteSum_0 N s1 n1 kN N n n2
theorem se_impl_ybyteSum_0 (N : Nat) {R : Type} (s1 : ByteArray) (n1 : Int) (n : Int) (n2 : Int) (AG : List (Option AV) → Hp E → Option R) (KL : Ex → List (Option AV) → Hp E → Option R) :
    iterStep (E := E) (O_impl_ybyteSum N) (fun {R} => LI (noIt) 0 19 sl_impl_ybyteSum (R := R)) J_impl_ybyteSum 0 19 0 [0, 3, 6, 7] [3] (body Go.Proofs.Try.f107 0) AG KL [(Option.some (Go.Eng.AV.sc (Go.Eng.SV.str s1))), (Option.some (Go.Eng.AV.sc (Go.Eng.SV.int Go.IntKind.i64 n))), (Option.some (Go.Eng.AV.sc (Go.Eng.SV.int Go.IntKind.i64 n1))), (Option.some (Go.Eng.AV.sc (Go.Eng.SV.int Go.IntKind.i64 n2)))] [] =
      s_impl_ybyteSum_0 N s1 n1 n n2 (fun n n2 => AG [(Option.some (Go.Eng.AV.sc (Go.Eng.SV.str s1))), (Option.some (Go.Eng.AV.sc (Go.Eng.SV.int Go.IntKind.i64 n))), (Option.some (Go.Eng.AV.sc (Go.Eng.SV.int Go.IntKind.i64 n1))), (Option.some (Go.Eng.AV.sc (Go.Eng.SV.int Go.IntKind.i64 n2)))] [])  (fun n5 => KL Go.Eng.Ex.normal [(Option.some (Go.Eng.AV.sc (Go.Eng.SV.int Go.IntKind.i64 n5)))] []) := by kernel_rfl
theorem le_impl_ybyteSum_0 (N : Nat) {R : Type} (s1 : ByteArray) (n1 : Int) (KL : Ex → List (Option AV) → Hp E → Option R) : ∀ (f : Nat), ∀ (n : Int) (n2 : Int), iterK (E := E) (O_impl_ybyteSum N) (fun {R} => LI (noIt) 0 19 sl_impl_ybyteSum (R := R)) J_impl_ybyteSum 0 19 0 [0, 3, 6, 7] [3] (body Go.Proofs.Try.f107 0) f [(Option.some (Go.Eng.AV.sc (Go.Eng.SV.str s1))), (Option.some (Go.Eng.AV.sc (Go.Eng.SV.int Go.IntKind.i64 n))), (Option.some (Go.Eng.AV.sc (Go.Eng.SV.int Go.IntKind.i64 n1))), (Option.some (Go.Eng.AV.sc (Go.Eng.SV.int Go.IntKind.i64 n2)))] [] KL = l_impl_ybyteSum_0 N s1 n1 (fun n5 => KL Go.Eng.Ex.normal [(Option.some (Go.Eng.AV.sc (Go.Eng.SV.int Go.IntKind.i64 n5)))] []) f n n2 := by
  intro f
  induction f with
  | zero => intros; rfl
  | succ f ih =>
    intro n n2
    rw [iterK_succ, se_impl_ybyteSum_0]
    exact (congrArg (fun z0 => s_impl_ybyteSum_0 N s1 n1 n n2 z0 (fun n5 => KL Go.Eng.Ex.normal [(Option.some (Go.Eng.AV.sc (Go.Eng.SV.int Go.IntKind.i64 n5)))] [])) (funext fun n => funext fun n2 => ih n n2))
def i_impl_ybyteSum_0 (N : Nat) {R : Type} (vs : List (Option AV)) (H : Hp E) (KL : Ex → List (Option AV) → Hp E → Option R) : Option R :=
  match vs, H with
  | [(Option.some (Go.Eng.AV.sc (Go.Eng.SV.str s1))), (Option.some (Go.Eng.AV.sc (Go.Eng.SV.int Go.IntKind.i64 n))), (Option.some (Go.Eng.AV.sc (Go.Eng.SV.int Go.IntKind.i64 n1))), (Option.some (Go.Eng.AV.sc (Go.Eng.SV.int Go.IntKind.i64 n2)))], [] => c_impl_ybyteSum_0 N s1 n1 n n2 (fun n6 => KL Go.Eng.Ex.normal [(Option.some (Go.Eng.AV.sc (Go.Eng.SV.int Go.IntKind.i64 n6)))] [])
  | _, _ => none
noncomputable def IT_impl_ybyteSum_0 (N : Nat) : Its E := addIt 0 (i_impl_ybyteSum_0 N) (noIt)
theorem IT_impl_ybyteSum_0_ok (N : Nat) : ItOk (IT_impl_ybyteSum_0 N) 0 19 sl_impl_ybyteSum (lsB Go.Proofs.Try.f107 [0]) :=
  addItB_ok (inner := []) ok (O_impl_ybyteSum_ok N) (jn_ok _ _ _) (noIt_ok) rfl (by kernel_rfl) rfl fun vs H KL r h => by
    unfold i_impl_ybyteSum_0 at h
    split at h
    · exact ⟨_, (le_impl_ybyteSum_0 N _ _ KL N _ _).trans h⟩
    · cases h
def g_impl_ybyteSum (N : Nat) {R : Type} (s : ByteArray) (k : Int → Option R) : Option R :=
  (c_impl_ybyteSum_0 N s (((ByteArray.size s) : Nat) : Int) (0 : Int) (0 : Int) fun n3 =>
  (k (Go.IntKind.wrap Go.IntKind.i64 (((BitVec.toNat ((BitVec.ofInt 64 n3) &&& (BitVec.ofInt 64 (255 : Int)))) : Nat) : Int))))
theorem e_impl_ybyteSum (N : Nat) {R : Type} (s : ByteArray) (K : AV → Hp E → Option R) :
    runFnI (E := E) (O_impl_ybyteSum N) (IT_impl_ybyteSum_0 N) sl_impl_ybyteSum J_impl_ybyteSum Go.Proofs.Try.f107 [(Go.Eng.AV.sc (Go.Eng.SV.str s))] [] K =
      g_impl_ybyteSum N s (fun n4 => K (Go.Eng.AV.sc (Go.Eng.SV.int Go.IntKind.i64 n4)) []) := by kernel_rfl
def o_impl_ybyteSum (N : Nat) {R : Type} (args : List AV) (H : Hp E) (K : AV → Hp E → Option R) : Option R :=
  match args, H with
  | [(Go.Eng.AV.sc (Go.Eng.SV.str s))], [] => g_impl_ybyteSum N s (fun n4 => K (Go.Eng.AV.sc (Go.Eng.SV.int Go.IntKind.i64 n4)) [])
  | _, _ => none
theorem o_impl_ybyteSum_ok (N : Nat) : FnOk E 107 (o_impl_ybyteSum N) := by
  intro R args H K r h
  unfold o_impl_ybyteSum at h
  dsimp only at h
  split at h
  · exact fnB_ok (ids := [0]) (top := [0]) ok (O_impl_ybyteSum_ok N) (jn_ok _ _ _) Go.Proofs.Try.func107 (by kernel_rfl) (IT := IT_impl_ybyteSum_0 N) (sl := sl_impl_ybyteSum) (J := J_impl_ybyteSum) (K := K) (H := []) (IT_impl_ybyteSum_0_ok N) (by kernel_rfl) rfl ((e_impl_ybyteSum N _ K).trans h)
  · cases h
/-! ### loop.example/g00038/impl.ywordAt -/
abbrev sl_impl_ywordAt : SlotT := []
abbrev J_impl_ywordAt : JT := jn [] [] []
noncomputable def O_impl_ywordAt (N : Nat) : Orc E := noFn
theorem O_impl_ywordAt_ok (N : Nat) : OrcOk (O_impl_ywordAt N) := noFn_ok
def g_impl_ywordAt (N : Nat) {R : Type} (s : ByteArray) (n : Int) (k : Int → Option R) : Option R :=
  (cond ((decide (((0 : Int) ≤ n))) && (decide ((n < (((ByteArray.size s) : Nat) : Int)))))
  (cond ((decide (((0 : Int) ≤ (Go.IntKind.wrap Go.IntKind.i64 (n + (1 : Int)))))) && (decide (((Go.IntKind.wrap Go.IntKind.i64 (n + (1 : Int))) < (((ByteArray.size s) : Nat) : Int)))))
    (cond ((decide (((0 : Int) ≤ (Go.IntKind.wrap Go.IntKind.i64 (n + (2 : Int)))))) && (decide (((Go.IntKind.wrap Go.IntKind.i64 (n + (2 : Int))) < (((ByteArray.size s) : Nat) : Int)))))
      (cond ((decide (((0 : Int) ≤ (Go.IntKind.wrap Go.IntKind.i64 (n + (3 : Int)))))) && (decide (((Go.IntKind.wrap Go.IntKind.i64 (n + (3 : Int))) < (((ByteArray.size s) : Nat) : Int)))))
        (k (Go.IntKind.wrap Go.IntKind.i64 (((BitVec.toNat ((BitVec.ofInt 64 (Go.IntKind.wrap Go.IntKind.i64 (((BitVec.toNat ((BitVec.ofInt 64 (Go.IntKind.wrap Go.IntKind.i64 (((BitVec.toNat ((BitVec.ofInt 64 (Go.IntKind.wrap Go.IntKind.i64 (Go.Eng.bt s (Int.toNat n)))) ||| (BitVec.ofInt 64 (Go.IntKind.wrap Go.IntKind.i64 ((Go.IntKind.wrap Go.IntKind.i64 (Go.Eng.bt s (Int.toNat (Go.IntKind.wrap Go.IntKind.i64 (n + (1 : Int)))))) * (256 : Int)))))) : Nat) : Int))) ||| (BitVec.ofInt 64 (Go.IntKind.wrap Go.IntKind.i64 ((Go.IntKind.wrap Go.IntKind.i64 (Go.Eng.bt s (Int.toNat (Go.IntKind.wrap Go.IntKind.i64 (n + (2 : Int)))))) * (65536 : Int)))))) : Nat) : Int))) ||| (BitVec.ofInt 64 (Go.IntKind.wrap Go.IntKind.i64 ((Go.IntKind.wrap Go.IntKind.i64 (Go.Eng.bt s (Int.toNat (Go.IntKind.wrap Go.IntKind.i64 (n + (3 : Int)))))) * (16777216 : Int)))))) : Nat) : Int)))
        none)
      none)
    none)
  none)
theorem e_impl_ywordAt (N : Nat) {R : Type} (s : ByteArray) (n : Int) (K : AV → Hp E → Option R) :
    runFnI (E := E) (O_impl_ywordAt N) (noIt) sl_impl_ywordAt J_impl_ywordAt Go.Proofs.Try.f85 [(Go.Eng.AV.sc (Go.Eng.SV.str s)), (Go.Eng.AV.sc (Go.Eng.SV.int Go.IntKind.i64 n))] [] K =
      g_impl_ywordAt N s n (fun n1 => K (Go.Eng.AV.sc (Go.Eng.SV.int Go.IntKind.i64 n1)) []) := by kernel_rfl
def o_impl_ywordAt (N : Nat) {R : Type} (args : List AV) (H : Hp E) (K : AV → Hp E → Option R) : Option R :=
  match args, H with
  | [(Go.Eng.AV.sc (Go.Eng.SV.str s)), (Go.Eng.AV.sc (Go.Eng.SV.int Go.IntKind.i64 n))], [] => g_impl_ywordAt N s n (fun n1 => K (Go.Eng.AV.sc (Go.Eng.SV.int Go.IntKind.i64 n1)) [])
  | _, _ => none
theorem o_impl_ywordAt_ok (N : Nat) : FnOk E 85 (o_impl_ywordAt N) := by
  intro R args H K r h
  unfold o_impl_ywordAt at h
  dsimp only at h
  split at h
  · exact fnB_ok (ids := []) (top := []) ok (O_impl_ywordAt_ok N) (jn_ok _ _ _) Go.Proofs.Try.func85 (by kernel_rfl) (IT := noIt) (sl := sl_impl_ywordAt) (J := J_impl_ywordAt) (K := K) (H := []) (noIt_ok) (by kernel_rfl) rfl ((e_impl_ywordAt N _ _ K).trans h)
  · cases h
/-! ### loop.example/g00038/impl.Word -/
abbrev sl_impl_Word : SlotT := []
abbrev J_impl_Word : JT := jn [] [] []
noncomputable def O_impl_Word (N : Nat) : Orc E := noFn
theorem O_impl_Word_ok (N : Nat) : OrcOk (O_impl_Word N) := noFn_ok
def g_impl_Word (N : Nat) {R : Type} (n : Int) (k : Int → Option R) : Option R :=
  (k (Go.IntKind.wrap Go.IntKind.i64 (Go.IntKind.wrap Go.IntKind.u32 n)))
theorem e_impl_Word (N : Nat) {R : Type} (n : Int) (K : AV → Hp E → Option R) :
    runFnI (E := E) (O_impl_Word N) (noIt) sl_impl_Word J_impl_Word Go.Proofs.Try.f161 [(Go.Eng.AV.sc (Go.Eng.SV.int Go.IntKind.i64 n))] [] K =
      g_impl_Word N n (fun n1 => K (Go.Eng.AV.sc (Go.Eng.SV.int Go.IntKind.i64 n1)) []) := by kernel_rfl
def o_impl_Word (N : Nat) {R : Type} (args : List AV) (H : Hp E) (K : AV → Hp E → Option R) : Option R :=
  match args, H with
  | [(Go.Eng.AV.sc (Go.Eng.SV.int Go.IntKind.i64 n))], [] => g_impl_Word N n (fun n1 => K (Go.Eng.AV.sc (Go.Eng.SV.int Go.IntKind.i64 n1)) [])
  | _, _ => none
theorem o_impl_Word_ok (N : Nat) : FnOk E 161 (o_impl_Word N) := by
  intro R args H K r h
  unfold o_impl_Word at h
  dsimp only at h
  split at h
  · exact fnB_ok (ids := []) (top := []) ok (O_impl_Word_ok N) (jn_ok _ _ _) Go.Proofs.Try.func161 (by kernel_rfl) (IT := noIt) (sl := sl_impl_Word) (J := J_impl_Word) (K := K) (H := []) (noIt_ok) (by kernel_rfl) rfl ((e_impl_Word N _ K).trans h)
  · cases h
/-! ### loop.example/g00038/impl.ywordSum -/
abbrev sl_impl_ywordSum : SlotT := [(0, ([0, 3, 4], [3]))]
abbrev J_impl_ywordSum : JT := jn [] [] []
noncomputable def O_impl_ywordSum (N : Nat) : Orc E := addFn 161 (o_impl_Word N) (addFn 85 (o_impl_ywordAt N) (noFn))
theorem O_impl_ywordSum_ok (N : Nat) : OrcOk (O_impl_ywordSum N) := addFn_ok (o_impl_Word_ok N) (addFn_ok (o_impl_ywordAt_ok N) (noFn_ok))
def s_impl_ywordSum_0 (N : Nat) {R : Type} (s1 : ByteArray) (n : Int) (n1 : Int) (ag : Int → Int → Option R)  (kN : Int → Option R) : Option R :=
  (cond (decide ((n1 < (((ByteArray.size s1) : Nat) : Int))))
  (g_impl_ywordAt N s1 n1 fun n2 =>
    (ag (Go.IntKind.wrap Go.IntKind.i64 (n + n2)) (Go.IntKind.wrap Go.IntKind.i64 (n1 + (4 : Int)))))
  (kN n))
def l_impl_ywordSum_0 (N : Nat) {R : Type} (s1 : ByteArray) (kN : Int → Option R) : Nat → Int → Int → Option R
  | 0, _, _ => none
  | f + 1, n, n1 => s_impl_ywordSum_0 N s1 n n1 (fun n n1 => l_impl_ywordSum_0 N s1 kN f n n1)  kN
def c_impl_ywordSum_0 (N : Nat) {R : Type} (s1 : ByteArray) (n : Int) (n1 : Int) (kN : Int → Option R) : Option R := l_impl_ywordSum_0 N s1 kN N n n1
theorem se_impl_ywordSum_0 (N : Nat) {R : Type} (s1 : ByteArray) (n : Int) (n1 : Int) (AG : List (Option AV) → Hp E → Option R) (KL : Ex → List (Option AV) → Hp E → Option R) :
    iterStep (E := E) (O_impl_ywordSum N) (fun {R} => LI (noIt) 0 18 sl_impl_ywordSum (R := R)) J_impl_ywordSum 0 18 0 [0, 3, 4] [3] (body Go.Proofs.Try.f98 0) AG KL [(Option.some (Go.Eng.AV.sc (Go.Eng.SV.str s1))), (Option.some (Go.Eng.AV.sc (Go.Eng.SV.int Go.IntKind.i64 n))), (Option.some (Go.Eng.AV.sc (Go.Eng.SV.int Go.IntKind.i64 n1)))] [] =
      s_impl_ywordSum_0 N s1 n n1 (fun n n1 => AG [(Option.some (Go.Eng.AV.sc (Go.Eng.SV.str s1))), (Option.some (Go.Eng.AV.sc (Go.Eng.SV.int Go.IntKind.i64 n))), (Option.some (Go.Eng.AV.sc (Go.Eng.SV.int Go.IntKind.i64 n1)))] [])  (fun n6 => KL Go.Eng.Ex.normal [(Option.some (Go.Eng.AV.sc (Go.Eng.SV.int Go.IntKind.i64 n6)))] []) := by kernel_rfl
theorem le_impl_ywordSum_0 (N : Nat) {R : Type} (s1 : ByteArray) (KL : Ex → List (Option AV) → Hp E → Option R) : ∀ (f : Nat), ∀ (n : Int) (n1 : Int), iterK (E := E) (O_impl_ywordSum N) (fun {R} => LI (noIt) 0 18 sl_impl_ywordSum (R := R)) J_impl_ywordSum 0 18 0 [0, 3, 4] [3] (body Go.Proofs.Try.f98 0) f [(Option.some (Go.Eng.AV.sc (Go.Eng.SV.str s1))), (Option.some (Go.Eng.AV.sc (Go.Eng.SV.int Go.IntKind.i64 n))), (Option.some (Go.Eng.AV.sc (Go.Eng.SV.int Go.IntKind.i64 n1)))] [] KL = l_impl_ywordSum_0 N s1 (fun n6 => KL Go.Eng.Ex.normal [(Option.some (Go.Eng.AV.sc (Go.Eng.SV.int Go.IntKind.i64 n6)))] []) f n n1 := by
  intro f
  induction f with
  | zero => intros; rfl
  | succ f ih =>
    intro n n1
    rw [iterK_succ, se_impl_ywordSum_0]
    exact (congrArg (fun z0 => s_impl_ywordSum_0 N s1 n n1 z0 (fun n6 => KL Go.Eng.Ex.normal [(Option.some (Go.Eng.AV.sc (Go.Eng.SV.int Go.IntKind.i64 n6)))] [])) (funext fun n => funext fun n1 => ih n n1))
def i_impl_ywordSum_0 (N : Nat) {R : Type} (vs : List (Option AV)) (H : Hp E) (KL : Ex → List (Option AV) → Hp E → Option R) : Option R :=
  match vs, H with
  | [(Option.some (Go.Eng.AV.sc (Go.Eng.SV.str s1))), (Option.some (Go.Eng.AV.sc (Go.Eng.SV.int Go.IntKind.i64 n))), (Option.some (Go.Eng.AV.sc (Go.Eng.SV.int Go.IntKind.i64 n1)))], [] => c_impl_ywordSum_0 N s1 n n1 (fun n7 => KL Go.Eng.Ex.normal [(Option.some (Go.Eng.AV.sc (Go.Eng.SV.int Go.IntKind.i64 n7)))] [])
  | _, _ => none
noncomputable def IT_impl_ywordSum_0 (N : Nat) : Its E := addIt 0 (i_impl_ywordSum_0 N) (noIt)
theorem IT_impl_ywordSum_0_ok (N : Nat) : ItOk (IT_impl_ywordSum_0 N) 0 18 sl_impl_ywordSum (lsB Go.Proofs.Try.f98 [0]) :=
  addItB_ok (inner := []) ok (O_impl_ywordSum_ok N) (jn_ok _ _ _) (noIt_ok) rfl (by kernel_rfl) rfl fun vs H KL r h => by
    unfold i_impl_ywordSum_0 at h
    split at h
    · exact ⟨_, (le_impl_ywordSum_0 N _ KL N _ _).trans h⟩
    · cases h
def g_impl_ywordSum (N : Nat) {R : Type} (s : ByteArray) (k : Int → Option R) : Option R :=
  (c_impl_ywordSum_0 N s (0 : Int) (0 : Int) fun n3 =>
  (g_impl_Word N n3 fun n4 =>
  (k n4)))
theorem e_impl_ywordSum (N : Nat) {R : Type} (s : ByteArray) (K : AV → Hp E → Option R) :
    runFnI (E := E) (O_impl_ywordSum N) (IT_impl_ywordSum_0 N) sl_impl_ywordSum J_impl_ywordSum Go.Proofs.Try.f98 [(Go.Eng.AV.sc (Go.Eng.SV.str s))] [] K =
      g_impl_ywordSum N s (fun n5 => K (Go.Eng.AV.sc (Go.Eng.SV.int Go.IntKind.i64 n5)) []) := by kernel_rfl
def o_impl_ywordSum (N : Nat) {R : Type} (args : List AV) (H : Hp E) (K : AV → Hp E → Option R) : Option R :=
  match args, H with
  | [(Go.Eng.AV.sc (Go.Eng.SV.str s))], [] => g_impl_ywordSum N s (fun n5 => K (Go.Eng.AV.sc (Go.Eng.SV.int Go.IntKind.i64 n5)) [])
  | _, _ => none
theorem o_impl_ywordSum_ok (N : Nat) : FnOk E 98 (o_impl_ywordSum N) := by
  intro R args H K r h
  unfold o_impl_ywordSum at h
  dsimp only at h
  split at h
  · exact fnB_ok (ids := [0]) (top := [0]) ok (O_impl_ywordSum_ok N) (jn_ok _ _ _) Go.Proofs.Try.func98 (by kernel_rfl) (IT := IT_impl_ywordSum_0 N) (sl := sl_impl_ywordSum) (J := J_impl_ywordSum) (K := K) (H := []) (IT_impl_ywordSum_0_ok N) (by kernel_rfl) rfl ((e_impl_ywordSum N _ K).trans h)
  · cases h
/-! ### loop.example/g00038/impl.yfits -/
abbrev sl_impl_yfits : SlotT := []
abbrev J_impl_yfits : JT := jn [(1, [(6, .b)])] [] []
noncomputable def O_impl_yfits (N : Nat) : Orc E := noFn
theorem O_impl_yfits_ok (N : Nat) : OrcOk (O_impl_yfits N) := noFn_ok
def g_impl_yfits (N : Nat) {R : Type} (n : Int) (n1 : Int) (n2 : Int) (k : Bool → Option R) : Option R :=
  (oK (cond (decide ((n1 ≥ (0 : Int))))
    (cond (decide ((n2 ≥ (0 : Int))))
      (cond (decide ((n1 ≤ n)))
        (some (decide ((n2 ≤ (Go.IntKind.wrap Go.IntKind.i64 (n - n1))))))
        (some Bool.false))
      (some Bool.false))
    (some Bool.false)) fun j =>
  (k j))
theorem e_impl_yfits (N : Nat) {R : Type} (n : Int) (n1 : Int) (n2 : Int) (K : AV → Hp E → Option R) :
    runFnI (E := E) (O_impl_yfits N) (noIt) sl_impl_yfits J_impl_yfits Go.Proofs.Try.f97 [(Go.Eng.AV.sc (Go.Eng.SV.int Go.IntKind.i64 n)), (Go.Eng.AV.sc (Go.Eng.SV.int Go.IntKind.i64 n1)), (Go.Eng.AV.sc (Go.Eng.SV.int Go.IntKind.i64 n2))] [] K =
      g_impl_yfits N n n1 n2 (fun b => K (Go.Eng.AV.sc (Go.Eng.SV.bool b)) []) := by kernel_rfl
def o_impl_yfits (N : Nat) {R : Type} (args : List AV) (H : Hp E) (K : AV → Hp E → Option R) : Option R :=
  match args, H with
  | [(Go.Eng.AV.sc (Go.Eng.SV.int Go.IntKind.i64 n)), (Go.Eng.AV.sc (Go.Eng.SV.int Go.IntKind.i64 n1)), (Go.Eng.AV.sc (Go.Eng.SV.int Go.IntKind.i64 n2))], [] => g_impl_yfits N n n1 n2 (fun b => K (Go.Eng.AV.sc (Go.Eng.SV.bool b)) [])
  | _, _ => none
theorem o_impl_yfits_ok (N : Nat) : FnOk E 97 (o_impl_yfits N) := by
  intro R args H K r h
  unfold o_impl_yfits at h
  dsimp only at h
  split at h
  · exact fnB_ok (ids := []) (top := []) ok (O_impl_yfits_ok N) (jn_ok _ _ _) Go.Proofs.Try.func97 (by kernel_rfl) (IT := noIt) (sl := sl_impl_yfits) (J := J_impl_yfits) (K := K) (H := []) (noIt_ok) (by kernel_rfl) rfl ((e_impl_yfits N _ _ _ K).trans h)
  · cases h
/-! ### loop.example/g00038/impl.ysplice -/
abbrev sl_impl_ysplice : SlotT := []
abbrev J_impl_ysplice : JT := jn [] [] []
noncomputable def O_impl_ysplice (N : Nat) : Orc E := noFn
theorem O_impl_ysplice_ok (N : Nat) : OrcOk (O_impl_ysplice N) := noFn_ok
def g_impl_ysplice (N : Nat) {R : Type} (s : ByteArray) (n : Int) (s1 : ByteArray) (k : ByteArray → Option R) : Option R :=
  (cond ((decide (((0 : Int) ≤ n))) && (decide ((n ≤ (((ByteArray.size s) : Nat) : Int)))))
  (cond (Nat.ble ((ByteArray.size (ByteArray.extract s 0 (Int.toNat n))) + (ByteArray.size s1)) 9223372036854775807)
    (cond (((decide (((0 : Int) ≤ (Go.IntKind.wrap Go.IntKind.i64 (n + (((ByteArray.size s1) : Nat) : Int)))))) && (decide (((Go.IntKind.wrap Go.IntKind.i64 (n + (((ByteArray.size s1) : Nat) : Int))) ≤ (((ByteArray.size s) : Nat) : Int))))) && (decide (((((ByteArray.size s) : Nat) : Int) ≤ (((ByteArray.size s) : Nat) : Int)))))
      (cond (Nat.ble ((ByteArray.size ((ByteArray.extract s 0 (Int.toNat n)) ++ s1)) + (ByteArray.size (ByteArray.extract s (Int.toNat (Go.IntKind.wrap Go.IntKind.i64 (n + (((ByteArray.size s1) : Nat) : Int)))) (Int.toNat (((ByteArray.size s) : Nat) : Int))))) 9223372036854775807)
        (k (((ByteArray.extract s 0 (Int.toNat n)) ++ s1) ++ (ByteArray.extract s (Int.toNat (Go.IntKind.wrap Go.IntKind.i64 (n + (((ByteArray.size s1) : Nat) : Int)))) (Int.toNat (((ByteArray.size s) : Nat) : Int)))))
        none)
      none)
    none)
  none)
theorem e_impl_ysplice (N : Nat) {R : Type} (s : ByteArray) (n : Int) (s1 : ByteArray) (K : AV → Hp E → Option R) :
    runFnI (E := E) (O_impl_ysplice N) (noIt) sl_impl_ysplice J_impl_ysplice Go.Proofs.Try.f108 [(Go.Eng.AV.sc (Go.Eng.SV.str s)), (Go.Eng.AV.sc (Go.Eng.SV.int Go.IntKind.i64 n)), (Go.Eng.AV.sc (Go.Eng.SV.str s1))] [] K =
      g_impl_ysplice N s n s1 (fun s2 => K (Go.Eng.AV.sc (Go.Eng.SV.str s2)) []) := by kernel_rfl
def o_impl_ysplice (N : Nat) {R : Type} (args : List AV) (H : Hp E) (K : AV → Hp E → Option R) : Option R :=
  match args, H with
  | [(Go.Eng.AV.sc (Go.Eng.SV.str s)), (Go.Eng.AV.sc (Go.Eng.SV.int Go.IntKind.i64 n)), (Go.Eng.AV.sc (Go.Eng.SV.str s1))], [] => g_impl_ysplice N s n s1 (fun s2 => K (Go.Eng.AV.sc (Go.Eng.SV.str s2)) [])
  | _, _ => none
theorem o_impl_ysplice_ok (N : Nat) : FnOk E 108 (o_impl_ysplice N) := by
  intro R args H K r h
  unfold o_impl_ysplice at h
  dsimp only at h
  split at h
  · exact fnB_ok (ids := []) (top := []) ok (O_impl_ysplice_ok N) (jn_ok _ _ _) Go.Proofs.Try.func108 (by kernel_rfl) (IT := noIt) (sl := sl_impl_ysplice) (J := J_impl_ysplice) (K := K) (H := []) (noIt_ok) (by kernel_rfl) rfl ((e_impl_ysplice N _ _ _ K).trans h)
  · cases h
end Go.Sa
