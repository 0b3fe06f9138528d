import Derived.Test.YtmmgjioemnhoaaaSpec
import Derived.Test.YtmmgjioemnhoaaaPLb
import Derived.Test.YtmmgjioemnhoaaaW0
set_option linter.all false
namespace Go.Sa
open Go Go.Eng Go.Proofs
set_option maxRecDepth 100000
/-! ### (*loop.example/g00038/spec.l01Src).key -/
abbrev sl_spec_l01Src_key_Wr : SlotT := []
abbrev J_spec_l01Src_key_Wr : JT := jn [] [] []
noncomputable def O_spec_l01Src_key_Wr (N : Nat) : Orc E := addFn 106 (o_spec_l01Src_zeros_Wr N) (addFn 94 (o_spec_l01Src_one_Wr N) (addFn 90 (o_spec_l01Src_bytes_Wr N) (addFn 91 (o_spec_l01Src_n_Wr N) (noFn))))
theorem O_spec_l01Src_key_Wr_ok (N : Nat) : OrcOk (O_spec_l01Src_key_Wr N) := addFn_ok (o_spec_l01Src_zeros_Wr_ok N) (addFn_ok (o_spec_l01Src_one_Wr_ok N) (addFn_ok (o_spec_l01Src_bytes_Wr_ok N) (addFn_ok (o_spec_l01Src_n_Wr_ok N) (noFn_ok))))
def g_spec_l01Src_key_Wr (N : Nat) {R : Type} (b : Bool) (n : Int) (n1 : Int) (n2 : Int) (l : List Int) (k : ByteArray → Int → Int → Option R) : Option R :=
  (g_spec_l01Src_n_Wr N (8 : Int) b n n1 n2 l fun n3 n4 n5 =>
  (g_spec_l01Src_bytes_Wr N n3 b n4 n5 n2 l fun s n6 n7 =>
  (g_spec_l01Src_one_Wr N (30 : Int) b n6 n7 n2 l fun b1 n8 n9 =>
  (cond b1
  (g_spec_l01Src_n_Wr N (3 : Int) b n8 n9 n2 l fun n10 n11 n12 =>
    (g_spec_l01Src_zeros_Wr N (Go.IntKind.wrap Go.IntKind.i64 ((4031 : Int) + n10)) b n11 n12 n2 l fun s1 =>
    (g_spec_l01Src_one_Wr N (30 : Int) b n11 n12 n2 l fun b2 n13 n14 =>
    (cond b2
    (g_spec_l01Src_n_Wr N (2 : Int) b n13 n14 n2 l fun n15 n16 n17 =>
      (g_spec_l01Src_zeros_Wr N (Go.IntKind.wrap Go.IntKind.i64 ((4096 : Int) + n15)) b n16 n17 n2 l fun s2 =>
      (k s2 n16 n17)))
    (k s1 n13 n14)))))
  (g_spec_l01Src_one_Wr N (30 : Int) b n8 n9 n2 l fun b3 n18 n19 =>
    (cond b3
    (g_spec_l01Src_n_Wr N (2 : Int) b n18 n19 n2 l fun n20 n21 n22 =>
      (g_spec_l01Src_zeros_Wr N (Go.IntKind.wrap Go.IntKind.i64 ((4096 : Int) + n20)) b n21 n22 n2 l fun s3 =>
      (k s3 n21 n22)))
    (k s n18 n19)))))))
theorem e_spec_l01Src_key_Wr (N : Nat) {R : Type} (b : Bool) (n : Int) (n1 : Int) (n2 : Int) (l : List Int) (K : AV → Hp E → Option R) :
    runFnI (E := E) (O_spec_l01Src_key_Wr N) (noIt) sl_spec_l01Src_key_Wr J_spec_l01Src_key_Wr Go.Proofs.Try.f63 [(Go.Eng.AV.sc (Go.Eng.SV.ptr 0 0 0))] [(Option.some (Go.Eng.HE.mk Bool.false (Go.Eng.HB.exp Option.none [(Go.Eng.SV.slc 1 Option.none b), (Go.Eng.SV.int Go.IntKind.i64 n), (Go.Eng.SV.int Go.IntKind.u64 n1), (Go.Eng.SV.int Go.IntKind.i64 n2)]))), (Option.some (Go.Eng.HE.mk Bool.true (Go.Eng.HB.rows (Go.Sa.B.u8 l))))] K =
      g_spec_l01Src_key_Wr N b n n1 n2 l (fun s4 n23 n24 => K (Go.Eng.AV.sc (Go.Eng.SV.str s4)) [(Option.some (Go.Eng.HE.mk Bool.false (Go.Eng.HB.exp Option.none [(Go.Eng.SV.slc 1 Option.none b), (Go.Eng.SV.int Go.IntKind.i64 n23), (Go.Eng.SV.int Go.IntKind.u64 n24), (Go.Eng.SV.int Go.IntKind.i64 n2)]))), (Option.some (Go.Eng.HE.mk Bool.true (Go.Eng.HB.rows (Go.Sa.B.u8 l))))]) := by kernel_rfl
def o_spec_l01Src_key_Wr (N : Nat) {R : Type} (args : List AV) (H : Hp E) (K : AV → Hp E → Option R) : Option R :=
  match args, H with
  | [(Go.Eng.AV.sc (Go.Eng.SV.ptr 0 0 0))], [(Option.some (Go.Eng.HE.mk Bool.false (Go.Eng.HB.exp Option.none [(Go.Eng.SV.slc 1 Option.none b), (Go.Eng.SV.int Go.IntKind.i64 n), (Go.Eng.SV.int Go.IntKind.u64 n1), (Go.Eng.SV.int Go.IntKind.i64 n2)]))), (Option.some (Go.Eng.HE.mk Bool.true (Go.Eng.HB.rows (Go.Sa.B.u8 l))))] => g_spec_l01Src_key_Wr N b n n1 n2 l (fun s4 n23 n24 => K (Go.Eng.AV.sc (Go.Eng.SV.str s4)) [(Option.some (Go.Eng.HE.mk Bool.false (Go.Eng.HB.exp Option.none [(Go.Eng.SV.slc 1 Option.none b), (Go.Eng.SV.int Go.IntKind.i64 n23), (Go.Eng.SV.int Go.IntKind.u64 n24), (Go.Eng.SV.int Go.IntKind.i64 n2)]))), (Option.some (Go.Eng.HE.mk Bool.true (Go.Eng.HB.rows (Go.Sa.B.u8 l))))])
  | _, _ => none
theorem o_spec_l01Src_key_Wr_ok (N : Nat) : FnOk E 63 (o_spec_l01Src_key_Wr N) := by
  intro R args H K r h
  unfold o_spec_l01Src_key_Wr at h
  dsimp only at h
  split at h
  · exact fnB_ok (ids := []) (top := []) ok (O_spec_l01Src_key_Wr_ok N) (jn_ok _ _ _) Go.Proofs.Try.func63 (by kernel_rfl) (IT := noIt) (sl := sl_spec_l01Src_key_Wr) (J := J_spec_l01Src_key_Wr) (K := K) (H := [(Option.some (Go.Eng.HE.mk Bool.false (Go.Eng.HB.exp Option.none [(Go.Eng.SV.slc 1 Option.none _), (Go.Eng.SV.int Go.IntKind.i64 _), (Go.Eng.SV.int Go.IntKind.u64 _), (Go.Eng.SV.int Go.IntKind.i64 _)]))), (Option.some (Go.Eng.HE.mk Bool.true (Go.Eng.HB.rows (Go.Sa.B.u8 _))))]) (noIt_ok) (by kernel_rfl) rfl ((e_spec_l01Src_key_Wr N _ _ _ _ _ K).trans h)
  · cases h
/-! ### loop.example/g00038/spec.DrawSeal -/
abbrev sl_spec_DrawSeal_r : SlotT := []
abbrev J_spec_DrawSeal_r : JT := jn [] [] []
noncomputable def O_spec_DrawSeal_r (N : Nat) : Orc E := addFn 63 (o_spec_l01Src_key_Wr N) (addFn 94 (o_spec_l01Src_one_Wr N) (addFn 91 (o_spec_l01Src_n_Wr N) (addFn 64 (o_spec_l01Src_regs_Wr N) (addFn 61 (o_spec_l01Source_r N) (noFn)))))
def pa_spec_DrawSeal_r__o_spec_l01Src_key_Wr (N : Nat) (G_spec_l01Src_key_Wr : ∀ {R : Type} (b : Bool) (n : Int) (n1 : Int) (n2 : Int) (l : List Int) (k : ByteArray → Int → Int → Option R), Option R) (G_spec_l01Src_one_Wr : ∀ {R : Type} (n : Int) (b : Bool) (n1 : Int) (n2 : Int) (n3 : Int) (l : List Int) (k : Bool → Int → Int → Option R), Option R) (G_spec_l01Src_n_Wr : ∀ {R : Type} (n : Int) (b : Bool) (n1 : Int) (n2 : Int) (n3 : Int) (l : List Int) (k : Int → Int → Int → Option R), Option R) (G_spec_l01Src_regs_Wr : ∀ {R : Type} (b : Bool) (n : Int) (n1 : Int) (n2 : Int) (l : List Int) (k : Bool → Int → Int → (List Int) → Option R), Option R) (G_spec_l01Source_r : ∀ {R : Type} (b : Bool) (l : List Int) (k : Int → Int → Option R), Option R) {R : Type} (args : List AV) (H : Hp E) (K : AV → Hp E → Option R) : Option R :=
  match args, H with
  | [(Go.Eng.AV.sc (Go.Eng.SV.ptr 0 0 0))], [(Option.some (Go.Eng.HE.mk Bool.false (Go.Eng.HB.exp Option.none [(Go.Eng.SV.slc 1 Option.none b), (Go.Eng.SV.int Go.IntKind.i64 n), (Go.Eng.SV.int Go.IntKind.u64 n1), (Go.Eng.SV.int Go.IntKind.i64 n2)]))), (Option.some (Go.Eng.HE.mk Bool.true (Go.Eng.HB.rows (Go.Sa.B.u8 l))))] => G_spec_l01Src_key_Wr b n n1 n2 l (fun s4 n23 n24 => K (Go.Eng.AV.sc (Go.Eng.SV.str s4)) [(Option.some (Go.Eng.HE.mk Bool.false (Go.Eng.HB.exp Option.none [(Go.Eng.SV.slc 1 Option.none b), (Go.Eng.SV.int Go.IntKind.i64 n23), (Go.Eng.SV.int Go.IntKind.u64 n24), (Go.Eng.SV.int Go.IntKind.i64 n2)]))), (Option.some (Go.Eng.HE.mk Bool.true (Go.Eng.HB.rows (Go.Sa.B.u8 l))))])
  | _, _ => none
def pa_spec_DrawSeal_r__o_spec_l01Src_one_Wr (N : Nat) (G_spec_l01Src_key_Wr : ∀ {R : Type} (b : Bool) (n : Int) (n1 : Int) (n2 : Int) (l : List Int) (k : ByteArray → Int → Int → Option R), Option R) (G_spec_l01Src_one_Wr : ∀ {R : Type} (n : Int) (b : Bool) (n1 : Int) (n2 : Int) (n3 : Int) (l : List Int) (k : Bool → Int → Int → Option R), Option R) (G_spec_l01Src_n_Wr : ∀ {R : Type} (n : Int) (b : Bool) (n1 : Int) (n2 : Int) (n3 : Int) (l : List Int) (k : Int → Int → Int → Option R), Option R) (G_spec_l01Src_regs_Wr : ∀ {R : Type} (b : Bool) (n : Int) (n1 : Int) (n2 : Int) (l : List Int) (k : Bool → Int → Int → (List Int) → Option R), Option R) (G_spec_l01Source_r : ∀ {R : Type} (b : Bool) (l : List Int) (k : Int → Int → Option R), Option R) {R : Type} (args : List AV) (H : Hp E) (K : AV → Hp E → Option R) : Option R :=
  match args, H with
  | [(Go.Eng.AV.sc (Go.Eng.SV.ptr 0 0 0)), (Go.Eng.AV.sc (Go.Eng.SV.int Go.IntKind.i64 n))], [(Option.some (Go.Eng.HE.mk Bool.false (Go.Eng.HB.exp Option.none [(Go.Eng.SV.slc 1 Option.none b), (Go.Eng.SV.int Go.IntKind.i64 n1), (Go.Eng.SV.int Go.IntKind.u64 n2), (Go.Eng.SV.int Go.IntKind.i64 n3)]))), (Option.some (Go.Eng.HE.mk Bool.true (Go.Eng.HB.rows (Go.Sa.B.u8 l))))] => G_spec_l01Src_one_Wr n b n1 n2 n3 l (fun b1 n7 n8 => K (Go.Eng.AV.sc (Go.Eng.SV.bool b1)) [(Option.some (Go.Eng.HE.mk Bool.false (Go.Eng.HB.exp Option.none [(Go.Eng.SV.slc 1 Option.none b), (Go.Eng.SV.int Go.IntKind.i64 n7), (Go.Eng.SV.int Go.IntKind.u64 n8), (Go.Eng.SV.int Go.IntKind.i64 n3)]))), (Option.some (Go.Eng.HE.mk Bool.true (Go.Eng.HB.rows (Go.Sa.B.u8 l))))])
  | _, _ => none
def pa_spec_DrawSeal_r__o_spec_l01Src_n_Wr (N : Nat) (G_spec_l01Src_key_Wr : ∀ {R : Type} (b : Bool) (n : Int) (n1 : Int) (n2 : Int) (l : List Int) (k : ByteArray → Int → Int → Option R), Option R) (G_spec_l01Src_one_Wr : ∀ {R : Type} (n : Int) (b : Bool) (n1 : Int) (n2 : Int) (n3 : Int) (l : List Int) (k : Bool → Int → Int → Option R), Option R) (G_spec_l01Src_n_Wr : ∀ {R : Type} (n : Int) (b : Bool) (n1 : Int) (n2 : Int) (n3 : Int) (l : List Int) (k : Int → Int → Int → Option R), Option R) (G_spec_l01Src_regs_Wr : ∀ {R : Type} (b : Bool) (n : Int) (n1 : Int) (n2 : Int) (l : List Int) (k : Bool → Int → Int → (List Int) → Option R), Option R) (G_spec_l01Source_r : ∀ {R : Type} (b : Bool) (l : List Int) (k : Int → Int → Option R), Option R) {R : Type} (args : List AV) (H : Hp E) (K : AV → Hp E → Option R) : Option R :=
  match args, H with
  | [(Go.Eng.AV.sc (Go.Eng.SV.ptr 0 0 0)), (Go.Eng.AV.sc (Go.Eng.SV.int Go.IntKind.i64 n))], [(Option.some (Go.Eng.HE.mk Bool.false (Go.Eng.HB.exp Option.none [(Go.Eng.SV.slc 1 Option.none b), (Go.Eng.SV.int Go.IntKind.i64 n1), (Go.Eng.SV.int Go.IntKind.u64 n2), (Go.Eng.SV.int Go.IntKind.i64 n3)]))), (Option.some (Go.Eng.HE.mk Bool.true (Go.Eng.HB.rows (Go.Sa.B.u8 l))))] => G_spec_l01Src_n_Wr n b n1 n2 n3 l (fun n4 n5 n6 => K (Go.Eng.AV.sc (Go.Eng.SV.int Go.IntKind.i64 n4)) [(Option.some (Go.Eng.HE.mk Bool.false (Go.Eng.HB.exp Option.none [(Go.Eng.SV.slc 1 Option.none b), (Go.Eng.SV.int Go.IntKind.i64 n5), (Go.Eng.SV.int Go.IntKind.u64 n6), (Go.Eng.SV.int Go.IntKind.i64 n3)]))), (Option.some (Go.Eng.HE.mk Bool.true (Go.Eng.HB.rows (Go.Sa.B.u8 l))))])
  | _, _ => none
def pa_spec_DrawSeal_r__o_spec_l01Src_regs_Wr (N : Nat) (G_spec_l01Src_key_Wr : ∀ {R : Type} (b : Bool) (n : Int) (n1 : Int) (n2 : Int) (l : List Int) (k : ByteArray → Int → Int → Option R), Option R) (G_spec_l01Src_one_Wr : ∀ {R : Type} (n : Int) (b : Bool) (n1 : Int) (n2 : Int) (n3 : Int) (l : List Int) (k : Bool → Int → Int → Option R), Option R) (G_spec_l01Src_n_Wr : ∀ {R : Type} (n : Int) (b : Bool) (n1 : Int) (n2 : Int) (n3 : Int) (l : List Int) (k : Int → Int → Int → Option R), Option R) (G_spec_l01Src_regs_Wr : ∀ {R : Type} (b : Bool) (n : Int) (n1 : Int) (n2 : Int) (l : List Int) (k : Bool → Int → Int → (List Int) → Option R), Option R) (G_spec_l01Source_r : ∀ {R : Type} (b : Bool) (l : List Int) (k : Int → Int → Option R), Option R) {R : Type} (args : List AV) (H : Hp E) (K : AV → Hp E → Option R) : Option R :=
  match args, H with
  | [(Go.Eng.AV.sc (Go.Eng.SV.ptr 0 0 0))], [(Option.some (Go.Eng.HE.mk Bool.false (Go.Eng.HB.exp Option.none [(Go.Eng.SV.slc 1 Option.none b), (Go.Eng.SV.int Go.IntKind.i64 n), (Go.Eng.SV.int Go.IntKind.u64 n1), (Go.Eng.SV.int Go.IntKind.i64 n2)]))), (Option.some (Go.Eng.HE.mk Bool.true (Go.Eng.HB.rows (Go.Sa.B.u8 l))))] => G_spec_l01Src_regs_Wr b n n1 n2 l (fun b5 n21 n22 l4 => K (Go.Eng.AV.sc (Go.Eng.SV.slc 2 Option.none b5)) [(Option.some (Go.Eng.HE.mk Bool.false (Go.Eng.HB.exp Option.none [(Go.Eng.SV.slc 1 Option.none b), (Go.Eng.SV.int Go.IntKind.i64 n21), (Go.Eng.SV.int Go.IntKind.u64 n22), (Go.Eng.SV.int Go.IntKind.i64 n2)]))), (Option.some (Go.Eng.HE.mk Bool.true (Go.Eng.HB.rows (Go.Sa.B.u8 l)))), (Option.some (Go.Eng.HE.mk Bool.false (Go.Eng.HB.rows (Go.Sa.B.i64 l4))))])
  | _, _ => none
def pa_spec_DrawSeal_r__o_spec_l01Source_r (N : Nat) (G_spec_l01Src_key_Wr : ∀ {R : Type} (b : Bool) (n : Int) (n1 : Int) (n2 : Int) (l : List Int) (k : ByteArray → Int → Int → Option R), Option R) (G_spec_l01Src_one_Wr : ∀ {R : Type} (n : Int) (b : Bool) (n1 : Int) (n2 : Int) (n3 : Int) (l : List Int) (k : Bool → Int → Int → Option R), Option R) (G_spec_l01Src_n_Wr : ∀ {R : Type} (n : Int) (b : Bool) (n1 : Int) (n2 : Int) (n3 : Int) (l : List Int) (k : Int → Int → Int → Option R), Option R) (G_spec_l01Src_regs_Wr : ∀ {R : Type} (b : Bool) (n : Int) (n1 : Int) (n2 : Int) (l : List Int) (k : Bool → Int → Int → (List Int) → Option R), Option R) (G_spec_l01Source_r : ∀ {R : Type} (b : Bool) (l : List Int) (k : Int → Int → Option R), Option R) {R : Type} (args : List AV) (H : Hp E) (K : AV → Hp E → Option R) : Option R :=
  match args, H with
  | [(Go.Eng.AV.sc (Go.Eng.SV.slc 0 Option.none b))], [(Option.some (Go.Eng.HE.mk Bool.true (Go.Eng.HB.rows (Go.Sa.B.u8 l))))] => G_spec_l01Source_r b l (fun n5 n6 => K (Go.Eng.AV.sc (Go.Eng.SV.ptr 1 0 0)) [(Option.some (Go.Eng.HE.mk Bool.true (Go.Eng.HB.rows (Go.Sa.B.u8 l)))), (Option.some (Go.Eng.HE.mk Bool.false (Go.Eng.HB.exp Option.none [(Go.Eng.SV.slc 0 Option.none b), (Go.Eng.SV.int Go.IntKind.i64 (0 : Int)), (Go.Eng.SV.int Go.IntKind.u64 n5), (Go.Eng.SV.int Go.IntKind.i64 n6)])))])
  | _, _ => none
noncomputable def OA_spec_DrawSeal_r (N : Nat) (G_spec_l01Src_key_Wr : ∀ {R : Type} (b : Bool) (n : Int) (n1 : Int) (n2 : Int) (l : List Int) (k : ByteArray → Int → Int → Option R), Option R) (G_spec_l01Src_one_Wr : ∀ {R : Type} (n : Int) (b : Bool) (n1 : Int) (n2 : Int) (n3 : Int) (l : List Int) (k : Bool → Int → Int → Option R), Option R) (G_spec_l01Src_n_Wr : ∀ {R : Type} (n : Int) (b : Bool) (n1 : Int) (n2 : Int) (n3 : Int) (l : List Int) (k : Int → Int → Int → Option R), Option R) (G_spec_l01Src_regs_Wr : ∀ {R : Type} (b : Bool) (n : Int) (n1 : Int) (n2 : Int) (l : List Int) (k : Bool → Int → Int → (List Int) → Option R), Option R) (G_spec_l01Source_r : ∀ {R : Type} (b : Bool) (l : List Int) (k : Int → Int → Option R), Option R) : Orc E := addFn 63 (pa_spec_DrawSeal_r__o_spec_l01Src_key_Wr N G_spec_l01Src_key_Wr G_spec_l01Src_one_Wr G_spec_l01Src_n_Wr G_spec_l01Src_regs_Wr G_spec_l01Source_r) (addFn 94 (pa_spec_DrawSeal_r__o_spec_l01Src_one_Wr N G_spec_l01Src_key_Wr G_spec_l01Src_one_Wr G_spec_l01Src_n_Wr G_spec_l01Src_regs_Wr G_spec_l01Source_r) (addFn 91 (pa_spec_DrawSeal_r__o_spec_l01Src_n_Wr N G_spec_l01Src_key_Wr G_spec_l01Src_one_Wr G_spec_l01Src_n_Wr G_spec_l01Src_regs_Wr G_spec_l01Source_r) (addFn 64 (pa_spec_DrawSeal_r__o_spec_l01Src_regs_Wr N G_spec_l01Src_key_Wr G_spec_l01Src_one_Wr G_spec_l01Src_n_Wr G_spec_l01Src_regs_Wr G_spec_l01Source_r) (addFn 61 (pa_spec_DrawSeal_r__o_spec_l01Source_r N G_spec_l01Src_key_Wr G_spec_l01Src_one_Wr G_spec_l01Src_n_Wr G_spec_l01Src_regs_Wr G_spec_l01Source_r) (noFn)))))
theorem O_spec_DrawSeal_r_ok (N : Nat) : OrcOk (O_spec_DrawSeal_r N) := addFn_ok (o_spec_l01Src_key_Wr_ok N) (addFn_ok (o_spec_l01Src_one_Wr_ok N) (addFn_ok (o_spec_l01Src_n_Wr_ok N) (addFn_ok (o_spec_l01Src_regs_Wr_ok N) (addFn_ok (o_spec_l01Source_r_ok N) (noFn_ok)))))
def g_spec_DrawSeal_r (N : Nat) {R : Type} (b : Bool) (l : List Int) (k : ByteArray → Bool → Int → ByteArray → (List Int) → Option R) : Option R :=
  (g_spec_l01Source_r N b l fun n n1 =>
  (g_spec_l01Src_regs_Wr N b (0 : Int) n n1 l fun b1 n2 n3 l1 =>
  (g_spec_l01Src_n_Wr N (Go.IntKind.wrap Go.IntKind.i64 ((1 : Int) * ((2 : Int) ^ (Min.min (Int.toNat (Go.IntKind.wrap Go.IntKind.u64 (((List.length l1) : Nat) : Int))) 64)))) b n2 n3 n1 l fun n4 n5 n6 =>
  (g_spec_l01Src_one_Wr N (12 : Int) b n5 n6 n1 l fun b2 n7 n8 =>
  (cond b2
  (g_spec_l01Src_n_Wr N (2 : Int) b n7 n8 n1 l fun n9 n10 n11 =>
    (cond ((decide (((0 : Int) ≤ n9))) && (decide ((n9 < (((List.length [(-(1 : Int)), (Go.IntKind.wrap Go.IntKind.i64 ((1 : Int) * ((2 : Int) ^ (Min.min (Int.toNat (Go.IntKind.wrap Go.IntKind.u64 (((List.length l1) : Nat) : Int))) 64))))]) : Nat) : Int)))))
    (elemK [(-(1 : Int)), (Go.IntKind.wrap Go.IntKind.i64 ((1 : Int) * ((2 : Int) ^ (Min.min (Int.toNat (Go.IntKind.wrap Go.IntKind.u64 (((List.length l1) : Nat) : Int))) 64))))] (Int.toNat n9) fun x =>
      (g_spec_l01Src_key_Wr N b n10 n11 n1 l fun s n12 n13 =>
      (g_spec_l01Src_key_Wr N b n12 n13 n1 l fun s1 n14 n15 =>
      (k s b1 x s1 l1))))
    none))
  (g_spec_l01Src_key_Wr N b n7 n8 n1 l fun s2 n16 n17 =>
    (g_spec_l01Src_key_Wr N b n16 n17 n1 l fun s3 n18 n19 =>
    (k s2 b1 n4 s3 l1))))))))
def ga_g_spec_DrawSeal_r (N : Nat) (G_spec_l01Src_key_Wr : ∀ {R : Type} (b : Bool) (n : Int) (n1 : Int) (n2 : Int) (l : List Int) (k : ByteArray → Int → Int → Option R), Option R) (G_spec_l01Src_one_Wr : ∀ {R : Type} (n : Int) (b : Bool) (n1 : Int) (n2 : Int) (n3 : Int) (l : List Int) (k : Bool → Int → Int → Option R), Option R) (G_spec_l01Src_n_Wr : ∀ {R : Type} (n : Int) (b : Bool) (n1 : Int) (n2 : Int) (n3 : Int) (l : List Int) (k : Int → Int → Int → Option R), Option R) (G_spec_l01Src_regs_Wr : ∀ {R : Type} (b : Bool) (n : Int) (n1 : Int) (n2 : Int) (l : List Int) (k : Bool → Int → Int → (List Int) → Option R), Option R) (G_spec_l01Source_r : ∀ {R : Type} (b : Bool) (l : List Int) (k : Int → Int → Option R), Option R) {R : Type} (b : Bool) (l : List Int) (k : ByteArray → Bool → Int → ByteArray → (List Int) → Option R) : Option R :=
  (G_spec_l01Source_r b l fun n n1 =>
  (G_spec_l01Src_regs_Wr b (0 : Int) n n1 l fun b1 n2 n3 l1 =>
  (G_spec_l01Src_n_Wr (Go.IntKind.wrap Go.IntKind.i64 ((1 : Int) * ((2 : Int) ^ (Min.min (Int.toNat (Go.IntKind.wrap Go.IntKind.u64 (((List.length l1) : Nat) : Int))) 64)))) b n2 n3 n1 l fun n4 n5 n6 =>
  (G_spec_l01Src_one_Wr (12 : Int) b n5 n6 n1 l fun b2 n7 n8 =>
  (cond b2
  (G_spec_l01Src_n_Wr (2 : Int) b n7 n8 n1 l fun n9 n10 n11 =>
    (cond ((decide (((0 : Int) ≤ n9))) && (decide ((n9 < (((List.length [(-(1 : Int)), (Go.IntKind.wrap Go.IntKind.i64 ((1 : Int) * ((2 : Int) ^ (Min.min (Int.toNat (Go.IntKind.wrap Go.IntKind.u64 (((List.length l1) : Nat) : Int))) 64))))]) : Nat) : Int)))))
    (elemK [(-(1 : Int)), (Go.IntKind.wrap Go.IntKind.i64 ((1 : Int) * ((2 : Int) ^ (Min.min (Int.toNat (Go.IntKind.wrap Go.IntKind.u64 (((List.length l1) : Nat) : Int))) 64))))] (Int.toNat n9) fun x =>
      (G_spec_l01Src_key_Wr b n10 n11 n1 l fun s n12 n13 =>
      (G_spec_l01Src_key_Wr b n12 n13 n1 l fun s1 n14 n15 =>
      (k s b1 x s1 l1))))
    none))
  (G_spec_l01Src_key_Wr b n7 n8 n1 l fun s2 n16 n17 =>
    (G_spec_l01Src_key_Wr b n16 n17 n1 l fun s3 n18 n19 =>
    (k s2 b1 n4 s3 l1))))))))
theorem ea_e_spec_DrawSeal_r (N : Nat) (G_spec_l01Src_key_Wr : ∀ {R : Type} (b : Bool) (n : Int) (n1 : Int) (n2 : Int) (l : List Int) (k : ByteArray → Int → Int → Option R), Option R) (G_spec_l01Src_one_Wr : ∀ {R : Type} (n : Int) (b : Bool) (n1 : Int) (n2 : Int) (n3 : Int) (l : List Int) (k : Bool → Int → Int → Option R), Option R) (G_spec_l01Src_n_Wr : ∀ {R : Type} (n : Int) (b : Bool) (n1 : Int) (n2 : Int) (n3 : Int) (l : List Int) (k : Int → Int → Int → Option R), Option R) (G_spec_l01Src_regs_Wr : ∀ {R : Type} (b : Bool) (n : Int) (n1 : Int) (n2 : Int) (l : List Int) (k : Bool → Int → Int → (List Int) → Option R), Option R) (G_spec_l01Source_r : ∀ {R : Type} (b : Bool) (l : List Int) (k : Int → Int → Option R), Option R) {R : Type} (b : Bool) (l : List Int) (K : AV → Hp E → Option R) :
    runFnI (E := E) (OA_spec_DrawSeal_r N G_spec_l01Src_key_Wr G_spec_l01Src_one_Wr G_spec_l01Src_n_Wr G_spec_l01Src_regs_Wr G_spec_l01Source_r) (noIt) sl_spec_DrawSeal_r J_spec_DrawSeal_r Go.Proofs.Try.f45 [(Go.Eng.AV.sc (Go.Eng.SV.slc 0 Option.none b))] [(Option.some (Go.Eng.HE.mk Bool.true (Go.Eng.HB.rows (Go.Sa.B.u8 l))))] K =
      ga_g_spec_DrawSeal_r N G_spec_l01Src_key_Wr G_spec_l01Src_one_Wr G_spec_l01Src_n_Wr G_spec_l01Src_regs_Wr G_spec_l01Source_r b l (fun s4 b3 n20 s5 l2 => K (Go.Eng.AV.tup [(Bool.false, [(Go.Eng.SV.str s4)]), (Bool.false, [(Go.Eng.SV.slc 1 Option.none b3)]), (Bool.false, [(Go.Eng.SV.int Go.IntKind.i64 n20)]), (Bool.false, [(Go.Eng.SV.str s5)])]) [(Option.some (Go.Eng.HE.mk Bool.true (Go.Eng.HB.rows (Go.Sa.B.u8 l)))), (Option.some (Go.Eng.HE.mk Bool.false (Go.Eng.HB.rows (Go.Sa.B.i64 l2))))]) := by kernel_rfl
theorem e_spec_DrawSeal_r (N : Nat) {R : Type} (b : Bool) (l : List Int) (K : AV → Hp E → Option R) :
    runFnI (E := E) (O_spec_DrawSeal_r N) (noIt) sl_spec_DrawSeal_r J_spec_DrawSeal_r Go.Proofs.Try.f45 [(Go.Eng.AV.sc (Go.Eng.SV.slc 0 Option.none b))] [(Option.some (Go.Eng.HE.mk Bool.true (Go.Eng.HB.rows (Go.Sa.B.u8 l))))] K =
      g_spec_DrawSeal_r N b l (fun s4 b3 n20 s5 l2 => K (Go.Eng.AV.tup [(Bool.false, [(Go.Eng.SV.str s4)]), (Bool.false, [(Go.Eng.SV.slc 1 Option.none b3)]), (Bool.false, [(Go.Eng.SV.int Go.IntKind.i64 n20)]), (Bool.false, [(Go.Eng.SV.str s5)])]) [(Option.some (Go.Eng.HE.mk Bool.true (Go.Eng.HB.rows (Go.Sa.B.u8 l)))), (Option.some (Go.Eng.HE.mk Bool.false (Go.Eng.HB.rows (Go.Sa.B.i64 l2))))]) := castPr (by kernel_rfl) (ea_e_spec_DrawSeal_r N (g_spec_l01Src_key_Wr N) (g_spec_l01Src_one_Wr N) (g_spec_l01Src_n_Wr N) (g_spec_l01Src_regs_Wr N) (g_spec_l01Source_r N) b l K)
def o_spec_DrawSeal_r (N : Nat) {R : Type} (args : List AV) (H : Hp E) (K : AV → Hp E → Option R) : Option R :=
  match args, H with
  | [(Go.Eng.AV.sc (Go.Eng.SV.slc 0 Option.none b))], [(Option.some (Go.Eng.HE.mk Bool.true (Go.Eng.HB.rows (Go.Sa.B.u8 l))))] => g_spec_DrawSeal_r N b l (fun s4 b3 n20 s5 l2 => K (Go.Eng.AV.tup [(Bool.false, [(Go.Eng.SV.str s4)]), (Bool.false, [(Go.Eng.SV.slc 1 Option.none b3)]), (Bool.false, [(Go.Eng.SV.int Go.IntKind.i64 n20)]), (Bool.false, [(Go.Eng.SV.str s5)])]) [(Option.some (Go.Eng.HE.mk Bool.true (Go.Eng.HB.rows (Go.Sa.B.u8 l)))), (Option.some (Go.Eng.HE.mk Bool.false (Go.Eng.HB.rows (Go.Sa.B.i64 l2))))])
  | _, _ => none
theorem o_spec_DrawSeal_r_ok (N : Nat) : FnOk E 45 (o_spec_DrawSeal_r N) := by
  intro R args H K r h
  unfold o_spec_DrawSeal_r at h
  dsimp only at h
  split at h
  · exact fnB_ok (ids := []) (top := []) ok (O_spec_DrawSeal_r_ok N) (jn_ok _ _ _) Go.Proofs.Try.func45 (by kernel_rfl) (IT := noIt) (sl := sl_spec_DrawSeal_r) (J := J_spec_DrawSeal_r) (K := K) (H := [(Option.some (Go.Eng.HE.mk Bool.true (Go.Eng.HB.rows (Go.Sa.B.u8 _))))]) (noIt_ok) (by kernel_rfl) rfl ((e_spec_DrawSeal_r N _ _ K).trans h)
  · cases h
/-! ### loop.example/g00038/impl.ylongKey$1 -/
abbrev sl_impl_ylongKey_1 : SlotT := []
abbrev J_impl_ylongKey_1 : JT := jn [] [] []
noncomputable def O_impl_ylongKey_1 (N : Nat) : Orc E := noFn
theorem O_impl_ylongKey_1_ok (N : Nat) : OrcOk (O_impl_ylongKey_1 N) := noFn_ok
def g_impl_ylongKey_1 (N : Nat) {R : Type} (s : ByteArray) (k : Bool → Option R) : Option R :=
  (k (decide (((((ByteArray.size s) : Nat) : Int) > (4096 : Int)))))
theorem e_impl_ylongKey_1 (N : Nat) {R : Type} (s : ByteArray) (K : AV → Hp E → Option R) :
    runFnI (E := E) (O_impl_ylongKey_1 N) (noIt) sl_impl_ylongKey_1 J_impl_ylongKey_1 Go.Proofs.Try.f105 [(Go.Eng.AV.sc (Go.Eng.SV.str s))] [] K =
      g_impl_ylongKey_1 N s (fun b => K (Go.Eng.AV.sc (Go.Eng.SV.bool b)) []) := by kernel_rfl
def o_impl_ylongKey_1 (N : Nat) {R : Type} (args : List AV) (H : Hp E) (K : AV → Hp E → Option R) : Option R :=
  match args, H with
  | [(Go.Eng.AV.sc (Go.Eng.SV.str s))], [] => g_impl_ylongKey_1 N s (fun b => K (Go.Eng.AV.sc (Go.Eng.SV.bool b)) [])
  | _, _ => none
theorem o_impl_ylongKey_1_ok (N : Nat) : FnOk E 105 (o_impl_ylongKey_1 N) := by
  intro R args H K r h
  unfold o_impl_ylongKey_1 at h
  dsimp only at h
  split at h
  · exact fnB_ok (ids := []) (top := []) ok (O_impl_ylongKey_1_ok N) (jn_ok _ _ _) Go.Proofs.Try.func105 (by kernel_rfl) (IT := noIt) (sl := sl_impl_ylongKey_1) (J := J_impl_ylongKey_1) (K := K) (H := []) (noIt_ok) (by kernel_rfl) rfl ((e_impl_ylongKey_1 N _ K).trans h)
  · cases h
/-! ### slices.IndexFunc[[]string,string] -/
abbrev sl_slices_IndexFunc_string_Fimpl_ylongKey_1_w : SlotT := [(0, ([0, 1, 7, 8], [4]))]
abbrev J_slices_IndexFunc_string_Fimpl_ylongKey_1_w : JT := jn [] [] []
noncomputable def O_slices_IndexFunc_string_Fimpl_ylongKey_1_w (N : Nat) : Orc E := addFn 105 (o_impl_ylongKey_1 N) (noFn)
theorem O_slices_IndexFunc_string_Fimpl_ylongKey_1_w_ok (N : Nat) : OrcOk (O_slices_IndexFunc_string_Fimpl_ylongKey_1_w N) := addFn_ok (o_impl_ylongKey_1_ok N) (noFn_ok)
def s_slices_IndexFunc_string_Fimpl_ylongKey_1_w_0 (N : Nat) {R : Type} (b1 : Bool) (n : Int) (l1 : List ByteArray) (n1 : Int) (ag : Int → Option R)  (kR : Int → Option R) (kN : Option R) : Option R :=
  (cond (decide ((n1 < n)))
  (cond ((decide (((0 : Int) ≤ n1))) && (decide ((n1 < (((List.length l1) : Nat) : Int)))))
    (elemK l1 (Int.toNat n1) fun x =>
      (g_impl_ylongKey_1 N x fun b2 =>
      (cond b2
      (kR n1)
      (ag (Go.IntKind.wrap Go.IntKind.i64 (n1 + (1 : Int)))))))
    none)
  kN)
def l_slices_IndexFunc_string_Fimpl_ylongKey_1_w_0 (N : Nat) {R : Type} (b1 : Bool) (n : Int) (l1 : List ByteArray) (kR : Int → Option R) (kN : Option R) : Nat → Int → Option R
  | 0, _ => none
  | f + 1, n1 => s_slices_IndexFunc_string_Fimpl_ylongKey_1_w_0 N b1 n l1 n1 (fun n1 => l_slices_IndexFunc_string_Fimpl_ylongKey_1_w_0 N b1 n l1 kR kN f n1)  kR kN
def c_slices_IndexFunc_string_Fimpl_ylongKey_1_w_0 (N : Nat) {R : Type} (b1 : Bool) (n : Int) (l1 : List ByteArray) (n1 : Int) (kR : Int → Option R) (kN : Option R) : Option R := l_slices_IndexFunc_string_Fimpl_ylongKey_1_w_0 N b1 n l1 kR kN N n1
theorem se_slices_IndexFunc_string_Fimpl_ylongKey_1_w_0 (N : Nat) {R : Type} (b1 : Bool) (n : Int) (l1 : List ByteArray) (n1 : Int) (AG : List (Option AV) → Hp E → Option R) (KL : Ex → List (Option AV) → Hp E → Option R) :
    iterStep (E := E) (O_slices_IndexFunc_string_Fimpl_ylongKey_1_w N) (fun {R} => LI (noIt) 1 19 sl_slices_IndexFunc_string_Fimpl_ylongKey_1_w (R := R)) J_slices_IndexFunc_string_Fimpl_ylongKey_1_w 1 19 0 [0, 1, 7, 8] [4] (body Go.Proofs.Try.f123 0) AG KL [(Option.some (Go.Eng.AV.sc (Go.Eng.SV.slc 0 Option.none b1))), (Option.some (Go.Eng.AV.sc (Go.Eng.SV.fn 105 []))), (Option.some (Go.Eng.AV.sc (Go.Eng.SV.int Go.IntKind.i64 n))), (Option.some (Go.Eng.AV.sc (Go.Eng.SV.int Go.IntKind.i64 n1)))] [(Option.some (Go.Eng.HE.mk Bool.false (Go.Eng.HB.rows (Go.Sa.B.str l1))))] =
      s_slices_IndexFunc_string_Fimpl_ylongKey_1_w_0 N b1 n l1 n1 (fun n1 => AG [(Option.some (Go.Eng.AV.sc (Go.Eng.SV.slc 0 Option.none b1))), (Option.some (Go.Eng.AV.sc (Go.Eng.SV.fn 105 []))), (Option.some (Go.Eng.AV.sc (Go.Eng.SV.int Go.IntKind.i64 n))), (Option.some (Go.Eng.AV.sc (Go.Eng.SV.int Go.IntKind.i64 n1)))] [(Option.some (Go.Eng.HE.mk Bool.false (Go.Eng.HB.rows (Go.Sa.B.str l1))))])  (fun n4 => KL Go.Eng.Ex.ret [(Option.some (Go.Eng.AV.sc (Go.Eng.SV.int Go.IntKind.i64 n4)))] [(Option.some (Go.Eng.HE.mk Bool.false (Go.Eng.HB.rows (Go.Sa.B.str l1))))]) (KL Go.Eng.Ex.normal [Option.none] [(Option.some (Go.Eng.HE.mk Bool.false (Go.Eng.HB.rows (Go.Sa.B.str l1))))]) := by kernel_rfl
theorem le_slices_IndexFunc_string_Fimpl_ylongKey_1_w_0 (N : Nat) {R : Type} (b1 : Bool) (n : Int) (l1 : List ByteArray) (KL : Ex → List (Option AV) → Hp E → Option R) : ∀ (f : Nat), ∀ (n1 : Int), iterK (E := E) (O_slices_IndexFunc_string_Fimpl_ylongKey_1_w N) (fun {R} => LI (noIt) 1 19 sl_slices_IndexFunc_string_Fimpl_ylongKey_1_w (R := R)) J_slices_IndexFunc_string_Fimpl_ylongKey_1_w 1 19 0 [0, 1, 7, 8] [4] (body Go.Proofs.Try.f123 0) f [(Option.some (Go.Eng.AV.sc (Go.Eng.SV.slc 0 Option.none b1))), (Option.some (Go.Eng.AV.sc (Go.Eng.SV.fn 105 []))), (Option.some (Go.Eng.AV.sc (Go.Eng.SV.int Go.IntKind.i64 n))), (Option.some (Go.Eng.AV.sc (Go.Eng.SV.int Go.IntKind.i64 n1)))] [(Option.some (Go.Eng.HE.mk Bool.false (Go.Eng.HB.rows (Go.Sa.B.str l1))))] KL = l_slices_IndexFunc_string_Fimpl_ylongKey_1_w_0 N b1 n l1 (fun n4 => KL Go.Eng.Ex.ret [(Option.some (Go.Eng.AV.sc (Go.Eng.SV.int Go.IntKind.i64 n4)))] [(Option.some (Go.Eng.HE.mk Bool.false (Go.Eng.HB.rows (Go.Sa.B.str l1))))]) (KL Go.Eng.Ex.normal [Option.none] [(Option.some (Go.Eng.HE.mk Bool.false (Go.Eng.HB.rows (Go.Sa.B.str l1))))]) f n1 := by
  intro f
  induction f with
  | zero => intros; rfl
  | succ f ih =>
    intro n1
    rw [iterK_succ, se_slices_IndexFunc_string_Fimpl_ylongKey_1_w_0]
    exact (congrArg (fun z0 => s_slices_IndexFunc_string_Fimpl_ylongKey_1_w_0 N b1 n l1 n1 z0 (fun n4 => KL Go.Eng.Ex.ret [(Option.some (Go.Eng.AV.sc (Go.Eng.SV.int Go.IntKind.i64 n4)))] [(Option.some (Go.Eng.HE.mk Bool.false (Go.Eng.HB.rows (Go.Sa.B.str l1))))]) (KL Go.Eng.Ex.normal [Option.none] [(Option.some (Go.Eng.HE.mk Bool.false (Go.Eng.HB.rows (Go.Sa.B.str l1))))])) (funext fun n1 => ih n1))
def i_slices_IndexFunc_string_Fimpl_ylongKey_1_w_0 (N : Nat) {R : Type} (vs : List (Option AV)) (H : Hp E) (KL : Ex → List (Option AV) → Hp E → Option R) : Option R :=
  match vs, H with
  | [(Option.some (Go.Eng.AV.sc (Go.Eng.SV.slc 0 Option.none b1))), (Option.some (Go.Eng.AV.sc (Go.Eng.SV.fn 105 []))), (Option.some (Go.Eng.AV.sc (Go.Eng.SV.int Go.IntKind.i64 n))), (Option.some (Go.Eng.AV.sc (Go.Eng.SV.int Go.IntKind.i64 n1)))], [(Option.some (Go.Eng.HE.mk Bool.false (Go.Eng.HB.rows (Go.Sa.B.str l1))))] => c_slices_IndexFunc_string_Fimpl_ylongKey_1_w_0 N b1 n l1 n1 (fun n5 => KL Go.Eng.Ex.ret [(Option.some (Go.Eng.AV.sc (Go.Eng.SV.int Go.IntKind.i64 n5)))] [(Option.some (Go.Eng.HE.mk Bool.false (Go.Eng.HB.rows (Go.Sa.B.str l1))))]) (KL Go.Eng.Ex.normal [Option.none] [(Option.some (Go.Eng.HE.mk Bool.false (Go.Eng.HB.rows (Go.Sa.B.str l1))))])
  | _, _ => none
noncomputable def IT_slices_IndexFunc_string_Fimpl_ylongKey_1_w_0 (N : Nat) : Its E := addIt 0 (i_slices_IndexFunc_string_Fimpl_ylongKey_1_w_0 N) (noIt)
theorem IT_slices_IndexFunc_string_Fimpl_ylongKey_1_w_0_ok (N : Nat) : ItOk (IT_slices_IndexFunc_string_Fimpl_ylongKey_1_w_0 N) 1 19 sl_slices_IndexFunc_string_Fimpl_ylongKey_1_w (lsB Go.Proofs.Try.f123 [0]) :=
  addItB_ok (inner := []) ok (O_slices_IndexFunc_string_Fimpl_ylongKey_1_w_ok N) (jn_ok _ _ _) (noIt_ok) rfl (by kernel_rfl) rfl fun vs H KL r h => by
    unfold i_slices_IndexFunc_string_Fimpl_ylongKey_1_w_0 at h
    split at h
    · exact ⟨_, (le_slices_IndexFunc_string_Fimpl_ylongKey_1_w_0 N _ _ _ KL N _).trans h⟩
    · cases h
def g_slices_IndexFunc_string_Fimpl_ylongKey_1_w (N : Nat) {R : Type} (b : Bool) (l : List ByteArray) (k : Int → Option R) : Option R :=
  (c_slices_IndexFunc_string_Fimpl_ylongKey_1_w_0 N b (((List.length l) : Nat) : Int) l (0 : Int) (fun n2 =>
  (k n2)) (
  (k (-(1 : Int)))))
theorem e_slices_IndexFunc_string_Fimpl_ylongKey_1_w (N : Nat) {R : Type} (b : Bool) (l : List ByteArray) (K : AV → Hp E → Option R) :
    runFnI (E := E) (O_slices_IndexFunc_string_Fimpl_ylongKey_1_w N) (IT_slices_IndexFunc_string_Fimpl_ylongKey_1_w_0 N) sl_slices_IndexFunc_string_Fimpl_ylongKey_1_w J_slices_IndexFunc_string_Fimpl_ylongKey_1_w Go.Proofs.Try.f123 [(Go.Eng.AV.sc (Go.Eng.SV.slc 0 Option.none b)), (Go.Eng.AV.sc (Go.Eng.SV.fn 105 []))] [(Option.some (Go.Eng.HE.mk Bool.false (Go.Eng.HB.rows (Go.Sa.B.str l))))] K =
      g_slices_IndexFunc_string_Fimpl_ylongKey_1_w N b l (fun n3 => K (Go.Eng.AV.sc (Go.Eng.SV.int Go.IntKind.i64 n3)) [(Option.some (Go.Eng.HE.mk Bool.false (Go.Eng.HB.rows (Go.Sa.B.str l))))]) := by kernel_rfl
def o_slices_IndexFunc_string_Fimpl_ylongKey_1_w (N : Nat) {R : Type} (args : List AV) (H : Hp E) (K : AV → Hp E → Option R) : Option R :=
  match args, H with
  | [(Go.Eng.AV.sc (Go.Eng.SV.slc 0 Option.none b)), (Go.Eng.AV.sc (Go.Eng.SV.fn 105 []))], [(Option.some (Go.Eng.HE.mk Bool.false (Go.Eng.HB.rows (Go.Sa.B.str l))))] => g_slices_IndexFunc_string_Fimpl_ylongKey_1_w N b l (fun n3 => K (Go.Eng.AV.sc (Go.Eng.SV.int Go.IntKind.i64 n3)) [(Option.some (Go.Eng.HE.mk Bool.false (Go.Eng.HB.rows (Go.Sa.B.str l))))])
  | _, _ => none
theorem o_slices_IndexFunc_string_Fimpl_ylongKey_1_w_ok (N : Nat) : FnOk E 123 (o_slices_IndexFunc_string_Fimpl_ylongKey_1_w N) := by
  intro R args H K r h
  unfold o_slices_IndexFunc_string_Fimpl_ylongKey_1_w at h
  dsimp only at h
  split at h
  · exact fnB_ok (ids := [0]) (top := [0]) ok (O_slices_IndexFunc_string_Fimpl_ylongKey_1_w_ok N) (jn_ok _ _ _) Go.Proofs.Try.func123 (by kernel_rfl) (IT := IT_slices_IndexFunc_string_Fimpl_ylongKey_1_w_0 N) (sl := sl_slices_IndexFunc_string_Fimpl_ylongKey_1_w) (J := J_slices_IndexFunc_string_Fimpl_ylongKey_1_w) (K := K) (H := [(Option.some (Go.Eng.HE.mk Bool.false (Go.Eng.HB.rows (Go.Sa.B.str _))))]) (IT_slices_IndexFunc_string_Fimpl_ylongKey_1_w_0_ok N) (by kernel_rfl) rfl ((e_slices_IndexFunc_string_Fimpl_ylongKey_1_w N _ _ K).trans h)
  · cases h
/-! ### slices.ContainsFunc[[]string,string] -/
abbrev sl_slices_ContainsFunc_string_Fimpl_ylongKey_1_w : SlotT := []
abbrev J_slices_ContainsFunc_string_Fimpl_ylongKey_1_w : JT := jn [] [] []
noncomputable def O_slices_ContainsFunc_string_Fimpl_ylongKey_1_w (N : Nat) : Orc E := addFn 123 (o_slices_IndexFunc_string_Fimpl_ylongKey_1_w N) (noFn)
theorem O_slices_ContainsFunc_string_Fimpl_ylongKey_1_w_ok (N : Nat) : OrcOk (O_slices_ContainsFunc_string_Fimpl_ylongKey_1_w N) := addFn_ok (o_slices_IndexFunc_string_Fimpl_ylongKey_1_w_ok N) (noFn_ok)
def g_slices_ContainsFunc_string_Fimpl_ylongKey_1_w (N : Nat) {R : Type} (b : Bool) (l : List ByteArray) (k : Bool → Option R) : Option R :=
  (g_slices_IndexFunc_string_Fimpl_ylongKey_1_w N b l fun n =>
  (k (decide ((n ≥ (0 : Int))))))
theorem e_slices_ContainsFunc_string_Fimpl_ylongKey_1_w (N : Nat) {R : Type} (b : Bool) (l : List ByteArray) (K : AV → Hp E → Option R) :
    runFnI (E := E) (O_slices_ContainsFunc_string_Fimpl_ylongKey_1_w N) (noIt) sl_slices_ContainsFunc_string_Fimpl_ylongKey_1_w J_slices_ContainsFunc_string_Fimpl_ylongKey_1_w Go.Proofs.Try.f104 [(Go.Eng.AV.sc (Go.Eng.SV.slc 0 Option.none b)), (Go.Eng.AV.sc (Go.Eng.SV.fn 105 []))] [(Option.some (Go.Eng.HE.mk Bool.false (Go.Eng.HB.rows (Go.Sa.B.str l))))] K =
      g_slices_ContainsFunc_string_Fimpl_ylongKey_1_w N b l (fun b1 => K (Go.Eng.AV.sc (Go.Eng.SV.bool b1)) [(Option.some (Go.Eng.HE.mk Bool.false (Go.Eng.HB.rows (Go.Sa.B.str l))))]) := by kernel_rfl
def o_slices_ContainsFunc_string_Fimpl_ylongKey_1_w (N : Nat) {R : Type} (args : List AV) (H : Hp E) (K : AV → Hp E → Option R) : Option R :=
  match args, H with
  | [(Go.Eng.AV.sc (Go.Eng.SV.slc 0 Option.none b)), (Go.Eng.AV.sc (Go.Eng.SV.fn 105 []))], [(Option.some (Go.Eng.HE.mk Bool.false (Go.Eng.HB.rows (Go.Sa.B.str l))))] => g_slices_ContainsFunc_string_Fimpl_ylongKey_1_w N b l (fun b1 => K (Go.Eng.AV.sc (Go.Eng.SV.bool b1)) [(Option.some (Go.Eng.HE.mk Bool.false (Go.Eng.HB.rows (Go.Sa.B.str l))))])
  | _, _ => none
theorem o_slices_ContainsFunc_string_Fimpl_ylongKey_1_w_ok (N : Nat) : FnOk E 104 (o_slices_ContainsFunc_string_Fimpl_ylongKey_1_w N) := by
  intro R args H K r h
  unfold o_slices_ContainsFunc_string_Fimpl_ylongKey_1_w at h
  dsimp only at h
  split at h
  · exact fnB_ok (ids := []) (top := []) ok (O_slices_ContainsFunc_string_Fimpl_ylongKey_1_w_ok N) (jn_ok _ _ _) Go.Proofs.Try.func104 (by kernel_rfl) (IT := noIt) (sl := sl_slices_ContainsFunc_string_Fimpl_ylongKey_1_w) (J := J_slices_ContainsFunc_string_Fimpl_ylongKey_1_w) (K := K) (H := [(Option.some (Go.Eng.HE.mk Bool.false (Go.Eng.HB.rows (Go.Sa.B.str _))))]) (noIt_ok) (by kernel_rfl) rfl ((e_slices_ContainsFunc_string_Fimpl_ylongKey_1_w N _ _ K).trans h)
  · cases h
/-! ### loop.example/g00038/impl.ylongKey -/
abbrev sl_impl_ylongKey_w : SlotT := []
abbrev J_impl_ylongKey_w : JT := jn [] [] []
noncomputable def O_impl_ylongKey_w (N : Nat) : Orc E := addFn 104 (o_slices_ContainsFunc_string_Fimpl_ylongKey_1_w N) (noFn)
theorem O_impl_ylongKey_w_ok (N : Nat) : OrcOk (O_impl_ylongKey_w N) := addFn_ok (o_slices_ContainsFunc_string_Fimpl_ylongKey_1_w_ok N) (noFn_ok)
def g_impl_ylongKey_w (N : Nat) {R : Type} (b : Bool) (l : List ByteArray) (k : Bool → Option R) : Option R :=
  (g_slices_ContainsFunc_string_Fimpl_ylongKey_1_w N b l fun b1 =>
  (k b1))
theorem e_impl_ylongKey_w (N : Nat) {R : Type} (b : Bool) (l : List ByteArray) (K : AV → Hp E → Option R) :
    runFnI (E := E) (O_impl_ylongKey_w N) (noIt) sl_impl_ylongKey_w J_impl_ylongKey_w Go.Proofs.Try.f57 [(Go.Eng.AV.sc (Go.Eng.SV.slc 0 Option.none b))] [(Option.some (Go.Eng.HE.mk Bool.false (Go.Eng.HB.rows (Go.Sa.B.str l))))] K =
      g_impl_ylongKey_w N b l (fun b2 => K (Go.Eng.AV.sc (Go.Eng.SV.bool b2)) [(Option.some (Go.Eng.HE.mk Bool.false (Go.Eng.HB.rows (Go.Sa.B.str l))))]) := by kernel_rfl
def o_impl_ylongKey_w (N : Nat) {R : Type} (args : List AV) (H : Hp E) (K : AV → Hp E → Option R) : Option R :=
  match args, H with
  | [(Go.Eng.AV.sc (Go.Eng.SV.slc 0 Option.none b))], [(Option.some (Go.Eng.HE.mk Bool.false (Go.Eng.HB.rows (Go.Sa.B.str l))))] => g_impl_ylongKey_w N b l (fun b2 => K (Go.Eng.AV.sc (Go.Eng.SV.bool b2)) [(Option.some (Go.Eng.HE.mk Bool.false (Go.Eng.HB.rows (Go.Sa.B.str l))))])
  | _, _ => none
theorem o_impl_ylongKey_w_ok (N : Nat) : FnOk E 57 (o_impl_ylongKey_w N) := by
  intro R args H K r h
  unfold o_impl_ylongKey_w at h
  dsimp only at h
  split at h
  · exact fnB_ok (ids := []) (top := []) ok (O_impl_ylongKey_w_ok N) (jn_ok _ _ _) Go.Proofs.Try.func57 (by kernel_rfl) (IT := noIt) (sl := sl_impl_ylongKey_w) (J := J_impl_ylongKey_w) (K := K) (H := [(Option.some (Go.Eng.HE.mk Bool.false (Go.Eng.HB.rows (Go.Sa.B.str _))))]) (noIt_ok) (by kernel_rfl) rfl ((e_impl_ylongKey_w N _ _ K).trans h)
  · cases h
/-! ### loop.example/g00038/impl.yin -/
abbrev sl_impl_yin : SlotT := []
abbrev J_impl_yin : JT := jn [(1, [(6, .b)])] [] []
noncomputable def O_impl_yin (N : Nat) : Orc E := noFn
theorem O_impl_yin_ok (N : Nat) : OrcOk (O_impl_yin N) := noFn_ok
def g_impl_yin (N : Nat) {R : Type} (n : Int) (n1 : Int) (n2 : Int) (k : Bool → Option R) : Option R :=
  (oK (cond (decide ((n ≥ n1)))
    (some (decide ((n ≤ n2))))
    (some Bool.false)) fun j =>
  (k j))
theorem e_impl_yin (N : Nat) {R : Type} (n : Int) (n1 : Int) (n2 : Int) (K : AV → Hp E → Option R) :
    runFnI (E := E) (O_impl_yin N) (noIt) sl_impl_yin J_impl_yin Go.Proofs.Try.f77 [(Go.Eng.AV.sc (Go.Eng.SV.int Go.IntKind.i64 n)), (Go.Eng.AV.sc (Go.Eng.SV.int Go.IntKind.i64 n1)), (Go.Eng.AV.sc (Go.Eng.SV.int Go.IntKind.i64 n2))] [] K =
      g_impl_yin N n n1 n2 (fun b => K (Go.Eng.AV.sc (Go.Eng.SV.bool b)) []) := by kernel_rfl
def o_impl_yin (N : Nat) {R : Type} (args : List AV) (H : Hp E) (K : AV → Hp E → Option R) : Option R :=
  match args, H with
  | [(Go.Eng.AV.sc (Go.Eng.SV.int Go.IntKind.i64 n)), (Go.Eng.AV.sc (Go.Eng.SV.int Go.IntKind.i64 n1)), (Go.Eng.AV.sc (Go.Eng.SV.int Go.IntKind.i64 n2))], [] => g_impl_yin N n n1 n2 (fun b => K (Go.Eng.AV.sc (Go.Eng.SV.bool b)) [])
  | _, _ => none
theorem o_impl_yin_ok (N : Nat) : FnOk E 77 (o_impl_yin N) := by
  intro R args H K r h
  unfold o_impl_yin at h
  dsimp only at h
  split at h
  · exact fnB_ok (ids := []) (top := []) ok (O_impl_yin_ok N) (jn_ok _ _ _) Go.Proofs.Try.func77 (by kernel_rfl) (IT := noIt) (sl := sl_impl_yin) (J := J_impl_yin) (K := K) (H := []) (noIt_ok) (by kernel_rfl) rfl ((e_impl_yin N _ _ _ K).trans h)
  · cases h
/-! ### loop.example/g00038/impl.yisWord -/
abbrev sl_impl_yisWord : SlotT := []
abbrev J_impl_yisWord : JT := jn [(1, [(2, .b)])] [] []
noncomputable def O_impl_yisWord (N : Nat) : Orc E := noFn
theorem O_impl_yisWord_ok (N : Nat) : OrcOk (O_impl_yisWord N) := noFn_ok
def g_impl_yisWord (N : Nat) {R : Type} (n : Int) (k : Bool → Option R) : Option R :=
  (oK (cond (decide ((n ≥ (0 : Int))))
    (some (decide ((n < (4294967296 : Int)))))
    (some Bool.false)) fun j =>
  (k j))
theorem e_impl_yisWord (N : Nat) {R : Type} (n : Int) (K : AV → Hp E → Option R) :
    runFnI (E := E) (O_impl_yisWord N) (noIt) sl_impl_yisWord J_impl_yisWord Go.Proofs.Try.f80 [(Go.Eng.AV.sc (Go.Eng.SV.int Go.IntKind.i64 n))] [] K =
      g_impl_yisWord N n (fun b => K (Go.Eng.AV.sc (Go.Eng.SV.bool b)) []) := by kernel_rfl
def o_impl_yisWord (N : Nat) {R : Type} (args : List AV) (H : Hp E) (K : AV → Hp E → Option R) : Option R :=
  match args, H with
  | [(Go.Eng.AV.sc (Go.Eng.SV.int Go.IntKind.i64 n))], [] => g_impl_yisWord N n (fun b => K (Go.Eng.AV.sc (Go.Eng.SV.bool b)) [])
  | _, _ => none
theorem o_impl_yisWord_ok (N : Nat) : FnOk E 80 (o_impl_yisWord N) := by
  intro R args H K r h
  unfold o_impl_yisWord at h
  dsimp only at h
  split at h
  · exact fnB_ok (ids := []) (top := []) ok (O_impl_yisWord_ok N) (jn_ok _ _ _) Go.Proofs.Try.func80 (by kernel_rfl) (IT := noIt) (sl := sl_impl_yisWord) (J := J_impl_yisWord) (K := K) (H := []) (noIt_ok) (by kernel_rfl) rfl ((e_impl_yisWord N _ K).trans h)
  · cases h
/-! ### loop.example/g00038/impl.yregsOk$1 -/
abbrev sl_impl_yregsOk_1 : SlotT := []
abbrev J_impl_yregsOk_1 : JT := jn [] [] []
noncomputable def O_impl_yregsOk_1 (N : Nat) : Orc E := addFn 80 (o_impl_yisWord N) (noFn)
theorem O_impl_yregsOk_1_ok (N : Nat) : OrcOk (O_impl_yregsOk_1 N) := addFn_ok (o_impl_yisWord_ok N) (noFn_ok)
def g_impl_yregsOk_1 (N : Nat) {R : Type} (n : Int) (k : Bool → Option R) : Option R :=
  (g_impl_yisWord N n fun b =>
  (k (!b)))
theorem e_impl_yregsOk_1 (N : Nat) {R : Type} (n : Int) (K : AV → Hp E → Option R) :
    runFnI (E := E) (O_impl_yregsOk_1 N) (noIt) sl_impl_yregsOk_1 J_impl_yregsOk_1 Go.Proofs.Try.f109 [(Go.Eng.AV.sc (Go.Eng.SV.int Go.IntKind.i64 n))] [] K =
      g_impl_yregsOk_1 N n (fun b1 => K (Go.Eng.AV.sc (Go.Eng.SV.bool b1)) []) := by kernel_rfl
def o_impl_yregsOk_1 (N : Nat) {R : Type} (args : List AV) (H : Hp E) (K : AV → Hp E → Option R) : Option R :=
  match args, H with
  | [(Go.Eng.AV.sc (Go.Eng.SV.int Go.IntKind.i64 n))], [] => g_impl_yregsOk_1 N n (fun b1 => K (Go.Eng.AV.sc (Go.Eng.SV.bool b1)) [])
  | _, _ => none
theorem o_impl_yregsOk_1_ok (N : Nat) : FnOk E 109 (o_impl_yregsOk_1 N) := by
  intro R args H K r h
  unfold o_impl_yregsOk_1 at h
  dsimp only at h
  split at h
  · exact fnB_ok (ids := []) (top := []) ok (O_impl_yregsOk_1_ok N) (jn_ok _ _ _) Go.Proofs.Try.func109 (by kernel_rfl) (IT := noIt) (sl := sl_impl_yregsOk_1) (J := J_impl_yregsOk_1) (K := K) (H := []) (noIt_ok) (by kernel_rfl) rfl ((e_impl_yregsOk_1 N _ K).trans h)
  · cases h
/-! ### slices.IndexFunc[[]int64,int64] -/
abbrev sl_slices_IndexFunc_int64_Fimpl_yregsOk_1_r : SlotT := [(0, ([0, 1, 7, 8], [4]))]
abbrev J_slices_IndexFunc_int64_Fimpl_yregsOk_1_r : JT := jn [] [] []
noncomputable def O_slices_IndexFunc_int64_Fimpl_yregsOk_1_r (N : Nat) : Orc E := addFn 109 (o_impl_yregsOk_1 N) (noFn)
theorem O_slices_IndexFunc_int64_Fimpl_yregsOk_1_r_ok (N : Nat) : OrcOk (O_slices_IndexFunc_int64_Fimpl_yregsOk_1_r N) := addFn_ok (o_impl_yregsOk_1_ok N) (noFn_ok)
def s_slices_IndexFunc_int64_Fimpl_yregsOk_1_r_0 (N : Nat) {R : Type} (b1 : Bool) (n : Int) (l1 : List Int) (n1 : Int) (ag : Int → Option R)  (kR : Int → Option R) (kN : Option R) : Option R :=
  (cond (decide ((n1 < n)))
  (cond ((decide (((0 : Int) ≤ n1))) && (decide ((n1 < (((List.length l1) : Nat) : Int)))))
    (elemK l1 (Int.toNat n1) fun x =>
      (g_impl_yregsOk_1 N x fun b2 =>
      (cond b2
      (kR n1)
      (ag (Go.IntKind.wrap Go.IntKind.i64 (n1 + (1 : Int)))))))
    none)
  kN)
def l_slices_IndexFunc_int64_Fimpl_yregsOk_1_r_0 (N : Nat) {R : Type} (b1 : Bool) (n : Int) (l1 : List Int) (kR : Int → Option R) (kN : Option R) : Nat → Int → Option R
  | 0, _ => none
  | f + 1, n1 => s_slices_IndexFunc_int64_Fimpl_yregsOk_1_r_0 N b1 n l1 n1 (fun n1 => l_slices_IndexFunc_int64_Fimpl_yregsOk_1_r_0 N b1 n l1 kR kN f n1)  kR kN
def c_slices_IndexFunc_int64_Fimpl_yregsOk_1_r_0 (N : Nat) {R : Type} (b1 : Bool) (n : Int) (l1 : List Int) (n1 : Int) (kR : Int → Option R) (kN : Option R) : Option R := l_slices_IndexFunc_int64_Fimpl_yregsOk_1_r_0 N b1 n l1 kR kN N n1
theorem se_slices_IndexFunc_int64_Fimpl_yregsOk_1_r_0 (N : Nat) {R : Type} (b1 : Bool) (n : Int) (l1 : List Int) (n1 : Int) (AG : List (Option AV) → Hp E → Option R) (KL : Ex → List (Option AV) → Hp E → Option R) :
    iterStep (E := E) (O_slices_IndexFunc_int64_Fimpl_yregsOk_1_r N) (fun {R} => LI (noIt) 1 19 sl_slices_IndexFunc_int64_Fimpl_yregsOk_1_r (R := R)) J_slices_IndexFunc_int64_Fimpl_yregsOk_1_r 1 19 0 [0, 1, 7, 8] [4] (body Go.Proofs.Try.f124 0) AG KL [(Option.some (Go.Eng.AV.sc (Go.Eng.SV.slc 0 Option.none b1))), (Option.some (Go.Eng.AV.sc (Go.Eng.SV.fn 109 []))), (Option.some (Go.Eng.AV.sc (Go.Eng.SV.int Go.IntKind.i64 n))), (Option.some (Go.Eng.AV.sc (Go.Eng.SV.int Go.IntKind.i64 n1)))] [(Option.some (Go.Eng.HE.mk Bool.true (Go.Eng.HB.rows (Go.Sa.B.i64 l1))))] =
      s_slices_IndexFunc_int64_Fimpl_yregsOk_1_r_0 N b1 n l1 n1 (fun n1 => AG [(Option.some (Go.Eng.AV.sc (Go.Eng.SV.slc 0 Option.none b1))), (Option.some (Go.Eng.AV.sc (Go.Eng.SV.fn 109 []))), (Option.some (Go.Eng.AV.sc (Go.Eng.SV.int Go.IntKind.i64 n))), (Option.some (Go.Eng.AV.sc (Go.Eng.SV.int Go.IntKind.i64 n1)))] [(Option.some (Go.Eng.HE.mk Bool.true (Go.Eng.HB.rows (Go.Sa.B.i64 l1))))])  (fun n4 => KL Go.Eng.Ex.ret [(Option.some (Go.Eng.AV.sc (Go.Eng.SV.int Go.IntKind.i64 n4)))] [(Option.some (Go.Eng.HE.mk Bool.true (Go.Eng.HB.rows (Go.Sa.B.i64 l1))))]) (KL Go.Eng.Ex.normal [Option.none] [(Option.some (Go.Eng.HE.mk Bool.true (Go.Eng.HB.rows (Go.Sa.B.i64 l1))))]) := by kernel_rfl
theorem le_slices_IndexFunc_int64_Fimpl_yregsOk_1_r_0 (N : Nat) {R : Type} (b1 : Bool) (n : Int) (l1 : List Int) (KL : Ex → List (Option AV) → Hp E → Option R) : ∀ (f : Nat), ∀ (n1 : Int), iterK (E := E) (O_slices_IndexFunc_int64_Fimpl_yregsOk_1_r N) (fun {R} => LI (noIt) 1 19 sl_slices_IndexFunc_int64_Fimpl_yregsOk_1_r (R := R)) J_slices_IndexFunc_int64_Fimpl_yregsOk_1_r 1 19 0 [0, 1, 7, 8] [4] (body Go.Proofs.Try.f124 0) f [(Option.some (Go.Eng.AV.sc (Go.Eng.SV.slc 0 Option.none b1))), (Option.some (Go.Eng.AV.sc (Go.Eng.SV.fn 109 []))), (Option.some (Go.Eng.AV.sc (Go.Eng.SV.int Go.IntKind.i64 n))), (Option.some (Go.Eng.AV.sc (Go.Eng.SV.int Go.IntKind.i64 n1)))] [(Option.some (Go.Eng.HE.mk Bool.true (Go.Eng.HB.rows (Go.Sa.B.i64 l1))))] KL = l_slices_IndexFunc_int64_Fimpl_yregsOk_1_r_0 N b1 n l1 (fun n4 => KL Go.Eng.Ex.ret [(Option.some (Go.Eng.AV.sc (Go.Eng.SV.int Go.IntKind.i64 n4)))] [(Option.some (Go.Eng.HE.mk Bool.true (Go.Eng.HB.rows (Go.Sa.B.i64 l1))))]) (KL Go.Eng.Ex.normal [Option.none] [(Option.some (Go.Eng.HE.mk Bool.true (Go.Eng.HB.rows (Go.Sa.B.i64 l1))))]) f n1 := by
  intro f
  induction f with
  | zero => intros; rfl
  | succ f ih =>
    intro n1
    rw [iterK_succ, se_slices_IndexFunc_int64_Fimpl_yregsOk_1_r_0]
    exact (congrArg (fun z0 => s_slices_IndexFunc_int64_Fimpl_yregsOk_1_r_0 N b1 n l1 n1 z0 (fun n4 => KL Go.Eng.Ex.ret [(Option.some (Go.Eng.AV.sc (Go.Eng.SV.int Go.IntKind.i64 n4)))] [(Option.some (Go.Eng.HE.mk Bool.true (Go.Eng.HB.rows (Go.Sa.B.i64 l1))))]) (KL Go.Eng.Ex.normal [Option.none] [(Option.some (Go.Eng.HE.mk Bool.true (Go.Eng.HB.rows (Go.Sa.B.i64 l1))))])) (funext fun n1 => ih n1))
def i_slices_IndexFunc_int64_Fimpl_yregsOk_1_r_0 (N : Nat) {R : Type} (vs : List (Option AV)) (H : Hp E) (KL : Ex → List (Option AV) → Hp E → Option R) : Option R :=
  match vs, H with
  | [(Option.some (Go.Eng.AV.sc (Go.Eng.SV.slc 0 Option.none b1))), (Option.some (Go.Eng.AV.sc (Go.Eng.SV.fn 109 []))), (Option.some (Go.Eng.AV.sc (Go.Eng.SV.int Go.IntKind.i64 n))), (Option.some (Go.Eng.AV.sc (Go.Eng.SV.int Go.IntKind.i64 n1)))], [(Option.some (Go.Eng.HE.mk Bool.true (Go.Eng.HB.rows (Go.Sa.B.i64 l1))))] => c_slices_IndexFunc_int64_Fimpl_yregsOk_1_r_0 N b1 n l1 n1 (fun n5 => KL Go.Eng.Ex.ret [(Option.some (Go.Eng.AV.sc (Go.Eng.SV.int Go.IntKind.i64 n5)))] [(Option.some (Go.Eng.HE.mk Bool.true (Go.Eng.HB.rows (Go.Sa.B.i64 l1))))]) (KL Go.Eng.Ex.normal [Option.none] [(Option.some (Go.Eng.HE.mk Bool.true (Go.Eng.HB.rows (Go.Sa.B.i64 l1))))])
  | _, _ => none
noncomputable def IT_slices_IndexFunc_int64_Fimpl_yregsOk_1_r_0 (N : Nat) : Its E := addIt 0 (i_slices_IndexFunc_int64_Fimpl_yregsOk_1_r_0 N) (noIt)
theorem IT_slices_IndexFunc_int64_Fimpl_yregsOk_1_r_0_ok (N : Nat) : ItOk (IT_slices_IndexFunc_int64_Fimpl_yregsOk_1_r_0 N) 1 19 sl_slices_IndexFunc_int64_Fimpl_yregsOk_1_r (lsB Go.Proofs.Try.f124 [0]) :=
  addItB_ok (inner := []) ok (O_slices_IndexFunc_int64_Fimpl_yregsOk_1_r_ok N) (jn_ok _ _ _) (noIt_ok) rfl (by kernel_rfl) rfl fun vs H KL r h => by
    unfold i_slices_IndexFunc_int64_Fimpl_yregsOk_1_r_0 at h
    split at h
    · exact ⟨_, (le_slices_IndexFunc_int64_Fimpl_yregsOk_1_r_0 N _ _ _ KL N _).trans h⟩
    · cases h
def g_slices_IndexFunc_int64_Fimpl_yregsOk_1_r (N : Nat) {R : Type} (b : Bool) (l : List Int) (k : Int → Option R) : Option R :=
  (c_slices_IndexFunc_int64_Fimpl_yregsOk_1_r_0 N b (((List.length l) : Nat) : Int) l (0 : Int) (fun n2 =>
  (k n2)) (
  (k (-(1 : Int)))))
theorem e_slices_IndexFunc_int64_Fimpl_yregsOk_1_r (N : Nat) {R : Type} (b : Bool) (l : List Int) (K : AV → Hp E → Option R) :
    runFnI (E := E) (O_slices_IndexFunc_int64_Fimpl_yregsOk_1_r N) (IT_slices_IndexFunc_int64_Fimpl_yregsOk_1_r_0 N) sl_slices_IndexFunc_int64_Fimpl_yregsOk_1_r J_slices_IndexFunc_int64_Fimpl_yregsOk_1_r Go.Proofs.Try.f124 [(Go.Eng.AV.sc (Go.Eng.SV.slc 0 Option.none b)), (Go.Eng.AV.sc (Go.Eng.SV.fn 109 []))] [(Option.some (Go.Eng.HE.mk Bool.true (Go.Eng.HB.rows (Go.Sa.B.i64 l))))] K =
      g_slices_IndexFunc_int64_Fimpl_yregsOk_1_r N b l (fun n3 => K (Go.Eng.AV.sc (Go.Eng.SV.int Go.IntKind.i64 n3)) [(Option.some (Go.Eng.HE.mk Bool.true (Go.Eng.HB.rows (Go.Sa.B.i64 l))))]) := by kernel_rfl
def o_slices_IndexFunc_int64_Fimpl_yregsOk_1_r (N : Nat) {R : Type} (args : List AV) (H : Hp E) (K : AV → Hp E → Option R) : Option R :=
  match args, H with
  | [(Go.Eng.AV.sc (Go.Eng.SV.slc 0 Option.none b)), (Go.Eng.AV.sc (Go.Eng.SV.fn 109 []))], [(Option.some (Go.Eng.HE.mk Bool.true (Go.Eng.HB.rows (Go.Sa.B.i64 l))))] => g_slices_IndexFunc_int64_Fimpl_yregsOk_1_r N b l (fun n3 => K (Go.Eng.AV.sc (Go.Eng.SV.int Go.IntKind.i64 n3)) [(Option.some (Go.Eng.HE.mk Bool.true (Go.Eng.HB.rows (Go.Sa.B.i64 l))))])
  | _, _ => none
theorem o_slices_IndexFunc_int64_Fimpl_yregsOk_1_r_ok (N : Nat) : FnOk E 124 (o_slices_IndexFunc_int64_Fimpl_yregsOk_1_r N) := by
  intro R args H K r h
  unfold o_slices_IndexFunc_int64_Fimpl_yregsOk_1_r at h
  dsimp only at h
  split at h
  · exact fnB_ok (ids := [0]) (top := [0]) ok (O_slices_IndexFunc_int64_Fimpl_yregsOk_1_r_ok N) (jn_ok _ _ _) Go.Proofs.Try.func124 (by kernel_rfl) (IT := IT_slices_IndexFunc_int64_Fimpl_yregsOk_1_r_0 N) (sl := sl_slices_IndexFunc_int64_Fimpl_yregsOk_1_r) (J := J_slices_IndexFunc_int64_Fimpl_yregsOk_1_r) (K := K) (H := [(Option.some (Go.Eng.HE.mk Bool.true (Go.Eng.HB.rows (Go.Sa.B.i64 _))))]) (IT_slices_IndexFunc_int64_Fimpl_yregsOk_1_r_0_ok N) (by kernel_rfl) rfl ((e_slices_IndexFunc_int64_Fimpl_yregsOk_1_r N _ _ K).trans h)
  · cases h
/-! ### slices.ContainsFunc[[]int64,int64] -/
abbrev sl_slices_ContainsFunc_int64_Fimpl_yregsOk_1_r : SlotT := []
abbrev J_slices_ContainsFunc_int64_Fimpl_yregsOk_1_r : JT := jn [] [] []
noncomputable def O_slices_ContainsFunc_int64_Fimpl_yregsOk_1_r (N : Nat) : Orc E := addFn 124 (o_slices_IndexFunc_int64_Fimpl_yregsOk_1_r N) (noFn)
theorem O_slices_ContainsFunc_int64_Fimpl_yregsOk_1_r_ok (N : Nat) : OrcOk (O_slices_ContainsFunc_int64_Fimpl_yregsOk_1_r N) := addFn_ok (o_slices_IndexFunc_int64_Fimpl_yregsOk_1_r_ok N) (noFn_ok)
def g_slices_ContainsFunc_int64_Fimpl_yregsOk_1_r (N : Nat) {R : Type} (b : Bool) (l : List Int) (k : Bool → Option R) : Option R :=
  (g_slices_IndexFunc_int64_Fimpl_yregsOk_1_r N b l fun n =>
  (k (decide ((n ≥ (0 : Int))))))
theorem e_slices_ContainsFunc_int64_Fimpl_yregsOk_1_r (N : Nat) {R : Type} (b : Bool) (l : List Int) (K : AV → Hp E → Option R) :
    runFnI (E := E) (O_slices_ContainsFunc_int64_Fimpl_yregsOk_1_r N) (noIt) sl_slices_ContainsFunc_int64_Fimpl_yregsOk_1_r J_slices_ContainsFunc_int64_Fimpl_yregsOk_1_r Go.Proofs.Try.f108 [(Go.Eng.AV.sc (Go.Eng.SV.slc 0 Option.none b)), (Go.Eng.AV.sc (Go.Eng.SV.fn 109 []))] [(Option.some (Go.Eng.HE.mk Bool.true (Go.Eng.HB.rows (Go.Sa.B.i64 l))))] K =
      g_slices_ContainsFunc_int64_Fimpl_yregsOk_1_r N b l (fun b1 => K (Go.Eng.AV.sc (Go.Eng.SV.bool b1)) [(Option.some (Go.Eng.HE.mk Bool.true (Go.Eng.HB.rows (Go.Sa.B.i64 l))))]) := by kernel_rfl
def o_slices_ContainsFunc_int64_Fimpl_yregsOk_1_r (N : Nat) {R : Type} (args : List AV) (H : Hp E) (K : AV → Hp E → Option R) : Option R :=
  match args, H with
  | [(Go.Eng.AV.sc (Go.Eng.SV.slc 0 Option.none b)), (Go.Eng.AV.sc (Go.Eng.SV.fn 109 []))], [(Option.some (Go.Eng.HE.mk Bool.true (Go.Eng.HB.rows (Go.Sa.B.i64 l))))] => g_slices_ContainsFunc_int64_Fimpl_yregsOk_1_r N b l (fun b1 => K (Go.Eng.AV.sc (Go.Eng.SV.bool b1)) [(Option.some (Go.Eng.HE.mk Bool.true (Go.Eng.HB.rows (Go.Sa.B.i64 l))))])
  | _, _ => none
theorem o_slices_ContainsFunc_int64_Fimpl_yregsOk_1_r_ok (N : Nat) : FnOk E 108 (o_slices_ContainsFunc_int64_Fimpl_yregsOk_1_r N) := by
  intro R args H K r h
  unfold o_slices_ContainsFunc_int64_Fimpl_yregsOk_1_r at h
  dsimp only at h
  split at h
  · exact fnB_ok (ids := []) (top := []) ok (O_slices_ContainsFunc_int64_Fimpl_yregsOk_1_r_ok N) (jn_ok _ _ _) Go.Proofs.Try.func108 (by kernel_rfl) (IT := noIt) (sl := sl_slices_ContainsFunc_int64_Fimpl_yregsOk_1_r) (J := J_slices_ContainsFunc_int64_Fimpl_yregsOk_1_r) (K := K) (H := [(Option.some (Go.Eng.HE.mk Bool.true (Go.Eng.HB.rows (Go.Sa.B.i64 _))))]) (noIt_ok) (by kernel_rfl) rfl ((e_slices_ContainsFunc_int64_Fimpl_yregsOk_1_r N _ _ K).trans h)
  · cases h
/-! ### loop.example/g00038/impl.yregsOk -/
abbrev sl_impl_yregsOk_r : SlotT := []
abbrev J_impl_yregsOk_r : JT := jn [(1, [(2, .b)])] [] []
noncomputable def O_impl_yregsOk_r (N : Nat) : Orc E := addFn 108 (o_slices_ContainsFunc_int64_Fimpl_yregsOk_1_r N) (addFn 77 (o_impl_yin N) (noFn))
theorem O_impl_yregsOk_r_ok (N : Nat) : OrcOk (O_impl_yregsOk_r N) := addFn_ok (o_slices_ContainsFunc_int64_Fimpl_yregsOk_1_r_ok N) (addFn_ok (o_impl_yin_ok N) (noFn_ok))
def g_impl_yregsOk_r (N : Nat) {R : Type} (b : Bool) (l : List Int) (k : Bool → Option R) : Option R :=
  (oK (g_impl_yin N (((List.length l) : Nat) : Int) (1 : Int) (8 : Int) fun b1 =>
    (cond b1
    (g_slices_ContainsFunc_int64_Fimpl_yregsOk_1_r N b l fun b2 =>
      (some (!b2)))
    (some Bool.false))) fun j =>
  (k j))
theorem e_impl_yregsOk_r (N : Nat) {R : Type} (b : Bool) (l : List Int) (K : AV → Hp E → Option R) :
    runFnI (E := E) (O_impl_yregsOk_r N) (noIt) sl_impl_yregsOk_r J_impl_yregsOk_r Go.Proofs.Try.f66 [(Go.Eng.AV.sc (Go.Eng.SV.slc 0 Option.none b))] [(Option.some (Go.Eng.HE.mk Bool.true (Go.Eng.HB.rows (Go.Sa.B.i64 l))))] K =
      g_impl_yregsOk_r N b l (fun b3 => K (Go.Eng.AV.sc (Go.Eng.SV.bool b3)) [(Option.some (Go.Eng.HE.mk Bool.true (Go.Eng.HB.rows (Go.Sa.B.i64 l))))]) := by kernel_rfl
def o_impl_yregsOk_r (N : Nat) {R : Type} (args : List AV) (H : Hp E) (K : AV → Hp E → Option R) : Option R :=
  match args, H with
  | [(Go.Eng.AV.sc (Go.Eng.SV.slc 0 Option.none b))], [(Option.some (Go.Eng.HE.mk Bool.true (Go.Eng.HB.rows (Go.Sa.B.i64 l))))] => g_impl_yregsOk_r N b l (fun b3 => K (Go.Eng.AV.sc (Go.Eng.SV.bool b3)) [(Option.some (Go.Eng.HE.mk Bool.true (Go.Eng.HB.rows (Go.Sa.B.i64 l))))])
  | _, _ => none
theorem o_impl_yregsOk_r_ok (N : Nat) : FnOk E 66 (o_impl_yregsOk_r N) := by
  intro R args H K r h
  unfold o_impl_yregsOk_r at h
  dsimp only at h
  split at h
  · exact fnB_ok (ids := []) (top := []) ok (O_impl_yregsOk_r_ok N) (jn_ok _ _ _) Go.Proofs.Try.func66 (by kernel_rfl) (IT := noIt) (sl := sl_impl_yregsOk_r) (J := J_impl_yregsOk_r) (K := K) (H := [(Option.some (Go.Eng.HE.mk Bool.true (Go.Eng.HB.rows (Go.Sa.B.i64 _))))]) (noIt_ok) (by kernel_rfl) rfl ((e_impl_yregsOk_r N _ _ K).trans h)
  · cases h
/-! ### loop.example/g00038/impl.ysealOk -/
abbrev sl_impl_ysealOk_w : SlotT := []
abbrev J_impl_ysealOk_w : JT := jn [(1, [(4, .b)])] [] []
noncomputable def O_impl_ysealOk_w (N : Nat) : Orc E := addFn 77 (o_impl_yin N) (addFn 66 (o_impl_yregsOk_r N) (noFn))
theorem O_impl_ysealOk_w_ok (N : Nat) : OrcOk (O_impl_ysealOk_w N) := addFn_ok (o_impl_yin_ok N) (addFn_ok (o_impl_yregsOk_r_ok N) (noFn_ok))
def g_impl_ysealOk_w (N : Nat) {R : Type} (b : Bool) (n : Int) (l : List Int) (k : Bool → Option R) : Option R :=
  (oK (g_impl_yregsOk_r N b l fun b1 =>
    (cond b1
    (g_impl_yin N n (0 : Int) (Go.IntKind.wrap Go.IntKind.i64 ((Go.IntKind.wrap Go.IntKind.i64 ((1 : Int) * ((2 : Int) ^ (Min.min (Int.toNat (((List.length l) : Nat) : Int)) 64)))) - (1 : Int))) fun b2 =>
      (some b2))
    (some Bool.false))) fun j =>
  (k j))
theorem e_impl_ysealOk_w (N : Nat) {R : Type} (b : Bool) (n : Int) (l : List Int) (K : AV → Hp E → Option R) :
    runFnI (E := E) (O_impl_ysealOk_w N) (noIt) sl_impl_ysealOk_w J_impl_ysealOk_w Go.Proofs.Try.f58 [(Go.Eng.AV.sc (Go.Eng.SV.slc 0 Option.none b)), (Go.Eng.AV.sc (Go.Eng.SV.int Go.IntKind.i64 n))] [(Option.some (Go.Eng.HE.mk Bool.false (Go.Eng.HB.rows (Go.Sa.B.i64 l))))] K =
      g_impl_ysealOk_w N b n l (fun b3 => K (Go.Eng.AV.sc (Go.Eng.SV.bool b3)) [(Option.some (Go.Eng.HE.mk Bool.false (Go.Eng.HB.rows (Go.Sa.B.i64 l))))]) := by kernel_rfl
def o_impl_ysealOk_w (N : Nat) {R : Type} (args : List AV) (H : Hp E) (K : AV → Hp E → Option R) : Option R :=
  match args, H with
  | [(Go.Eng.AV.sc (Go.Eng.SV.slc 0 Option.none b)), (Go.Eng.AV.sc (Go.Eng.SV.int Go.IntKind.i64 n))], [(Option.some (Go.Eng.HE.mk Bool.false (Go.Eng.HB.rows (Go.Sa.B.i64 l))))] => g_impl_ysealOk_w N b n l (fun b3 => K (Go.Eng.AV.sc (Go.Eng.SV.bool b3)) [(Option.some (Go.Eng.HE.mk Bool.false (Go.Eng.HB.rows (Go.Sa.B.i64 l))))])
  | _, _ => none
theorem o_impl_ysealOk_w_ok (N : Nat) : FnOk E 58 (o_impl_ysealOk_w N) := by
  intro R args H K r h
  unfold o_impl_ysealOk_w at h
  dsimp only at h
  split at h
  · exact fnB_ok (ids := []) (top := []) ok (O_impl_ysealOk_w_ok N) (jn_ok _ _ _) Go.Proofs.Try.func58 (by kernel_rfl) (IT := noIt) (sl := sl_impl_ysealOk_w) (J := J_impl_ysealOk_w) (K := K) (H := [(Option.some (Go.Eng.HE.mk Bool.false (Go.Eng.HB.rows (Go.Sa.B.i64 _))))]) (noIt_ok) (by kernel_rfl) rfl ((e_impl_ysealOk_w N _ _ _ K).trans h)
  · cases h
/-! ### loop.example/g00038/impl.PutWord -/
abbrev sl_impl_PutWord : SlotT := []
abbrev J_impl_PutWord : JT := jn [] [] []
noncomputable def O_impl_PutWord (N : Nat) : Orc E := noFn
theorem O_impl_PutWord_ok (N : Nat) : OrcOk (O_impl_PutWord N) := noFn_ok
def g_impl_PutWord (N : Nat) {R : Type} (n : Int) (k : ByteArray → Option R) : Option R :=
  (k (Go.Eng.toBytes (Go.Eng.seg [(Go.IntKind.wrap Go.IntKind.u8 (Go.IntKind.wrap Go.IntKind.u32 n)), (Go.IntKind.wrap Go.IntKind.u8 (Int.fdiv (Go.IntKind.wrap Go.IntKind.u32 n) (256 : Int))), (Go.IntKind.wrap Go.IntKind.u8 (Int.fdiv (Go.IntKind.wrap Go.IntKind.u32 n) (65536 : Int))), (Go.IntKind.wrap Go.IntKind.u8 (Int.fdiv (Go.IntKind.wrap Go.IntKind.u32 n) (16777216 : Int)))] 0 (List.length [(Go.IntKind.wrap Go.IntKind.u8 (Go.IntKind.wrap Go.IntKind.u32 n)), (Go.IntKind.wrap Go.IntKind.u8 (Int.fdiv (Go.IntKind.wrap Go.IntKind.u32 n) (256 : Int))), (Go.IntKind.wrap Go.IntKind.u8 (Int.fdiv (Go.IntKind.wrap Go.IntKind.u32 n) (65536 : Int))), (Go.IntKind.wrap Go.IntKind.u8 (Int.fdiv (Go.IntKind.wrap Go.IntKind.u32 n) (16777216 : Int)))]))))
theorem e_impl_PutWord (N : Nat) {R : Type} (n : Int) (K : AV → Hp E → Option R) :
    runFnI (E := E) (O_impl_PutWord N) (noIt) sl_impl_PutWord J_impl_PutWord Go.Proofs.Try.f69 [(Go.Eng.AV.sc (Go.Eng.SV.int Go.IntKind.i64 n))] [] K =
      g_impl_PutWord N n (fun s => K (Go.Eng.AV.sc (Go.Eng.SV.str s)) []) := by kernel_rfl
def o_impl_PutWord (N : Nat) {R : Type} (args : List AV) (H : Hp E) (K : AV → Hp E → Option R) : Option R :=
  match args, H with
  | [(Go.Eng.AV.sc (Go.Eng.SV.int Go.IntKind.i64 n))], [] => g_impl_PutWord N n (fun s => K (Go.Eng.AV.sc (Go.Eng.SV.str s)) [])
  | _, _ => none
theorem o_impl_PutWord_ok (N : Nat) : FnOk E 69 (o_impl_PutWord N) := by
  intro R args H K r h
  unfold o_impl_PutWord at h
  dsimp only at h
  split at h
  · exact fnB_ok (ids := []) (top := []) ok (O_impl_PutWord_ok N) (jn_ok _ _ _) Go.Proofs.Try.func69 (by kernel_rfl) (IT := noIt) (sl := sl_impl_PutWord) (J := J_impl_PutWord) (K := K) (H := []) (noIt_ok) (by kernel_rfl) rfl ((e_impl_PutWord N _ K).trans h)
  · cases h
/-! ### loop.example/g00038/impl.yjoin -/
abbrev sl_impl_yjoin_w : SlotT := []
abbrev J_impl_yjoin_w : JT := jn [] [] []
noncomputable def O_impl_yjoin_w (N : Nat) : Orc E := addFn 111 osp_111 (noFn)
theorem O_impl_yjoin_w_ok (N : Nat) : OrcOk (O_impl_yjoin_w N) := addFn_ok osp_111_ok (noFn_ok)
def g_impl_yjoin_w (N : Nat) {R : Type} (b : Bool) (l : List ByteArray) (k : ByteArray → Option R) : Option R :=
  (cond (Go.Eng.joinOk l (ByteArray.mk (List.toArray [])))
  (k (Go.Eng.joinB l (ByteArray.mk (List.toArray []))))
  none)
theorem e_impl_yjoin_w (N : Nat) {R : Type} (b : Bool) (l : List ByteArray) (K : AV → Hp E → Option R) :
    runFnI (E := E) (O_impl_yjoin_w N) (noIt) sl_impl_yjoin_w J_impl_yjoin_w Go.Proofs.Try.f68 [(Go.Eng.AV.sc (Go.Eng.SV.slc 0 Option.none b))] [(Option.some (Go.Eng.HE.mk Bool.false (Go.Eng.HB.rows (Go.Sa.B.str l))))] K =
      g_impl_yjoin_w N b l (fun s => K (Go.Eng.AV.sc (Go.Eng.SV.str s)) [(Option.some (Go.Eng.HE.mk Bool.false (Go.Eng.HB.rows (Go.Sa.B.str l))))]) := by kernel_rfl
def o_impl_yjoin_w (N : Nat) {R : Type} (args : List AV) (H : Hp E) (K : AV → Hp E → Option R) : Option R :=
  match args, H with
  | [(Go.Eng.AV.sc (Go.Eng.SV.slc 0 Option.none b))], [(Option.some (Go.Eng.HE.mk Bool.false (Go.Eng.HB.rows (Go.Sa.B.str l))))] => g_impl_yjoin_w N b l (fun s => K (Go.Eng.AV.sc (Go.Eng.SV.str s)) [(Option.some (Go.Eng.HE.mk Bool.false (Go.Eng.HB.rows (Go.Sa.B.str l))))])
  | _, _ => none
theorem o_impl_yjoin_w_ok (N : Nat) : FnOk E 68 (o_impl_yjoin_w N) := by
  intro R args H K r h
  unfold o_impl_yjoin_w at h
  dsimp only at h
  split at h
  · exact fnB_ok (ids := []) (top := []) ok (O_impl_yjoin_w_ok N) (jn_ok _ _ _) Go.Proofs.Try.func68 (by kernel_rfl) (IT := noIt) (sl := sl_impl_yjoin_w) (J := J_impl_yjoin_w) (K := K) (H := [(Option.some (Go.Eng.HE.mk Bool.false (Go.Eng.HB.rows (Go.Sa.B.str _))))]) (noIt_ok) (by kernel_rfl) rfl ((e_impl_yjoin_w N _ _ K).trans h)
  · cases h
/-! ### loop.example/g00038/impl.ysealKey -/
abbrev sl_impl_ysealKey_w : SlotT := [(0, ([2, 7, 11, 12, 13], [7]))]
abbrev J_impl_ysealKey_w : JT := jn [] [(22, [(7, .s)])] []
noncomputable def O_impl_ysealKey_w (N : Nat) : Orc E := addFn 68 (o_impl_yjoin_w N) (addFn 69 (o_impl_PutWord N) (noFn))
theorem O_impl_ysealKey_w_ok (N : Nat) : OrcOk (O_impl_ysealKey_w N) := addFn_ok (o_impl_yjoin_w_ok N) (addFn_ok (o_impl_PutWord_ok N) (noFn_ok))
def s_impl_ysealKey_w_0 (N : Nat) {R : Type} (n1 : Int) (b1 : Bool) (n2 : Int) (l1 : List Int) (s1 : ByteArray) (n3 : Int) (ag : ByteArray → Int → Option R)  (kN : ByteArray → Option R) : Option R :=
  (cond (decide ((n3 < n2)))
  (cond ((decide (((0 : Int) ≤ n3))) && (decide ((n3 < (((List.length l1) : Nat) : Int)))))
    (elemK l1 (Int.toNat n3) fun x =>
      (cond (decide ((n3 < (0 : Int))))
      none
      (oK (cond ((Go.IntKind.wrap Go.IntKind.i64 (((BitVec.toNat ((BitVec.ofInt 64 (Int.fdiv n1 ((2 : Int) ^ (Min.min (Int.toNat n3) 64)))) &&& (BitVec.ofInt 64 (1 : Int)))) : Nat) : Int)) == (1 : Int))
          (g_impl_PutWord N n3 fun s2 =>
            (g_impl_PutWord N x fun s3 =>
            (g_impl_yjoin_w N Bool.false [s1, s2, s3] fun s4 =>
            (some s4))))
          (some s1)) fun j =>
        (ag j (Go.IntKind.wrap Go.IntKind.i64 (n3 + (1 : Int)))))))
    none)
  (kN s1))
def l_impl_ysealKey_w_0 (N : Nat) {R : Type} (n1 : Int) (b1 : Bool) (n2 : Int) (l1 : List Int) (kN : ByteArray → Option R) : Nat → ByteArray → Int → Option R
  | 0, _, _ => none
  | f + 1, s1, n3 => s_impl_ysealKey_w_0 N n1 b1 n2 l1 s1 n3 (fun s1 n3 => l_impl_ysealKey_w_0 N n1 b1 n2 l1 kN f s1 n3)  kN
def c_impl_ysealKey_w_0 (N : Nat) {R : Type} (n1 : Int) (b1 : Bool) (n2 : Int) (l1 : List Int) (s1 : ByteArray) (n3 : Int) (kN : ByteArray → Option R) : Option R := l_impl_ysealKey_w_0 N n1 b1 n2 l1 kN N s1 n3
theorem se_impl_ysealKey_w_0 (N : Nat) {R : Type} (n1 : Int) (b1 : Bool) (n2 : Int) (l1 : List Int) (s1 : ByteArray) (n3 : Int) (AG : List (Option AV) → Hp E → Option R) (KL : Ex → List (Option AV) → Hp E → Option R) :
    iterStep (E := E) (O_impl_ysealKey_w N) (fun {R} => LI (noIt) 1 32 sl_impl_ysealKey_w (R := R)) J_impl_ysealKey_w 1 32 0 [2, 7, 11, 12, 13] [7] (body Go.Proofs.Try.f59 0) AG KL [(Option.some (Go.Eng.AV.sc (Go.Eng.SV.int Go.IntKind.i64 n1))), (Option.some (Go.Eng.AV.sc (Go.Eng.SV.str s1))), (Option.some (Go.Eng.AV.sc (Go.Eng.SV.slc 0 Option.none b1))), (Option.some (Go.Eng.AV.sc (Go.Eng.SV.int Go.IntKind.i64 n2))), (Option.some (Go.Eng.AV.sc (Go.Eng.SV.int Go.IntKind.i64 n3)))] [(Option.some (Go.Eng.HE.mk Bool.false (Go.Eng.HB.rows (Go.Sa.B.i64 l1))))] =
      s_impl_ysealKey_w_0 N n1 b1 n2 l1 s1 n3 (fun s1 n3 => AG [(Option.some (Go.Eng.AV.sc (Go.Eng.SV.int Go.IntKind.i64 n1))), (Option.some (Go.Eng.AV.sc (Go.Eng.SV.str s1))), (Option.some (Go.Eng.AV.sc (Go.Eng.SV.slc 0 Option.none b1))), (Option.some (Go.Eng.AV.sc (Go.Eng.SV.int Go.IntKind.i64 n2))), (Option.some (Go.Eng.AV.sc (Go.Eng.SV.int Go.IntKind.i64 n3)))] [(Option.some (Go.Eng.HE.mk Bool.false (Go.Eng.HB.rows (Go.Sa.B.i64 l1))))])  (fun s7 => KL Go.Eng.Ex.normal [(Option.some (Go.Eng.AV.sc (Go.Eng.SV.str s7)))] [(Option.some (Go.Eng.HE.mk Bool.false (Go.Eng.HB.rows (Go.Sa.B.i64 l1))))]) := by kernel_rfl
theorem le_impl_ysealKey_w_0 (N : Nat) {R : Type} (n1 : Int) (b1 : Bool) (n2 : Int) (l1 : List Int) (KL : Ex → List (Option AV) → Hp E → Option R) : ∀ (f : Nat), ∀ (s1 : ByteArray) (n3 : Int), iterK (E := E) (O_impl_ysealKey_w N) (fun {R} => LI (noIt) 1 32 sl_impl_ysealKey_w (R := R)) J_impl_ysealKey_w 1 32 0 [2, 7, 11, 12, 13] [7] (body Go.Proofs.Try.f59 0) f [(Option.some (Go.Eng.AV.sc (Go.Eng.SV.int Go.IntKind.i64 n1))), (Option.some (Go.Eng.AV.sc (Go.Eng.SV.str s1))), (Option.some (Go.Eng.AV.sc (Go.Eng.SV.slc 0 Option.none b1))), (Option.some (Go.Eng.AV.sc (Go.Eng.SV.int Go.IntKind.i64 n2))), (Option.some (Go.Eng.AV.sc (Go.Eng.SV.int Go.IntKind.i64 n3)))] [(Option.some (Go.Eng.HE.mk Bool.false (Go.Eng.HB.rows (Go.Sa.B.i64 l1))))] KL = l_impl_ysealKey_w_0 N n1 b1 n2 l1 (fun s7 => KL Go.Eng.Ex.normal [(Option.some (Go.Eng.AV.sc (Go.Eng.SV.str s7)))] [(Option.some (Go.Eng.HE.mk Bool.false (Go.Eng.HB.rows (Go.Sa.B.i64 l1))))]) f s1 n3 := by
  intro f
  induction f with
  | zero => intros; rfl
  | succ f ih =>
    intro s1 n3
    rw [iterK_succ, se_impl_ysealKey_w_0]
    exact (congrArg (fun z0 => s_impl_ysealKey_w_0 N n1 b1 n2 l1 s1 n3 z0 (fun s7 => KL Go.Eng.Ex.normal [(Option.some (Go.Eng.AV.sc (Go.Eng.SV.str s7)))] [(Option.some (Go.Eng.HE.mk Bool.false (Go.Eng.HB.rows (Go.Sa.B.i64 l1))))])) (funext fun s1 => funext fun n3 => ih s1 n3))
def i_impl_ysealKey_w_0 (N : Nat) {R : Type} (vs : List (Option AV)) (H : Hp E) (KL : Ex → List (Option AV) → Hp E → Option R) : Option R :=
  match vs, H with
  | [(Option.some (Go.Eng.AV.sc (Go.Eng.SV.int Go.IntKind.i64 n1))), (Option.some (Go.Eng.AV.sc (Go.Eng.SV.str s1))), (Option.some (Go.Eng.AV.sc (Go.Eng.SV.slc 0 Option.none b1))), (Option.some (Go.Eng.AV.sc (Go.Eng.SV.int Go.IntKind.i64 n2))), (Option.some (Go.Eng.AV.sc (Go.Eng.SV.int Go.IntKind.i64 n3)))], [(Option.some (Go.Eng.HE.mk Bool.false (Go.Eng.HB.rows (Go.Sa.B.i64 l1))))] => c_impl_ysealKey_w_0 N n1 b1 n2 l1 s1 n3 (fun s8 => KL Go.Eng.Ex.normal [(Option.some (Go.Eng.AV.sc (Go.Eng.SV.str s8)))] [(Option.some (Go.Eng.HE.mk Bool.false (Go.Eng.HB.rows (Go.Sa.B.i64 l1))))])
  | _, _ => none
noncomputable def IT_impl_ysealKey_w_0 (N : Nat) : Its E := addIt 0 (i_impl_ysealKey_w_0 N) (noIt)
theorem IT_impl_ysealKey_w_0_ok (N : Nat) : ItOk (IT_impl_ysealKey_w_0 N) 1 32 sl_impl_ysealKey_w (lsB Go.Proofs.Try.f59 [0]) :=
  addItB_ok (inner := []) ok (O_impl_ysealKey_w_ok N) (jn_ok _ _ _) (noIt_ok) rfl (by kernel_rfl) rfl fun vs H KL r h => by
    unfold i_impl_ysealKey_w_0 at h
    split at h
    · exact ⟨_, (le_impl_ysealKey_w_0 N _ _ _ _ KL N _ _).trans h⟩
    · cases h
def g_impl_ysealKey_w (N : Nat) {R : Type} (s : ByteArray) (b : Bool) (n : Int) (l : List Int) (k : ByteArray → Option R) : Option R :=
  (c_impl_ysealKey_w_0 N n b (((List.length l) : Nat) : Int) l s (0 : Int) fun s5 =>
  (k s5))
theorem e_impl_ysealKey_w (N : Nat) {R : Type} (s : ByteArray) (b : Bool) (n : Int) (l : List Int) (K : AV → Hp E → Option R) :
    runFnI (E := E) (O_impl_ysealKey_w N) (IT_impl_ysealKey_w_0 N) sl_impl_ysealKey_w J_impl_ysealKey_w Go.Proofs.Try.f59 [(Go.Eng.AV.sc (Go.Eng.SV.str s)), (Go.Eng.AV.sc (Go.Eng.SV.slc 0 Option.none b)), (Go.Eng.AV.sc (Go.Eng.SV.int Go.IntKind.i64 n))] [(Option.some (Go.Eng.HE.mk Bool.false (Go.Eng.HB.rows (Go.Sa.B.i64 l))))] K =
      g_impl_ysealKey_w N s b n l (fun s6 => K (Go.Eng.AV.sc (Go.Eng.SV.str s6)) [(Option.some (Go.Eng.HE.mk Bool.false (Go.Eng.HB.rows (Go.Sa.B.i64 l))))]) := by kernel_rfl
def o_impl_ysealKey_w (N : Nat) {R : Type} (args : List AV) (H : Hp E) (K : AV → Hp E → Option R) : Option R :=
  match args, H with
  | [(Go.Eng.AV.sc (Go.Eng.SV.str s)), (Go.Eng.AV.sc (Go.Eng.SV.slc 0 Option.none b)), (Go.Eng.AV.sc (Go.Eng.SV.int Go.IntKind.i64 n))], [(Option.some (Go.Eng.HE.mk Bool.false (Go.Eng.HB.rows (Go.Sa.B.i64 l))))] => g_impl_ysealKey_w N s b n l (fun s6 => K (Go.Eng.AV.sc (Go.Eng.SV.str s6)) [(Option.some (Go.Eng.HE.mk Bool.false (Go.Eng.HB.rows (Go.Sa.B.i64 l))))])
  | _, _ => none
theorem o_impl_ysealKey_w_ok (N : Nat) : FnOk E 59 (o_impl_ysealKey_w N) := by
  intro R args H K r h
  unfold o_impl_ysealKey_w at h
  dsimp only at h
  split at h
  · exact fnB_ok (ids := [0]) (top := [0]) ok (O_impl_ysealKey_w_ok N) (jn_ok _ _ _) Go.Proofs.Try.func59 (by kernel_rfl) (IT := IT_impl_ysealKey_w_0 N) (sl := sl_impl_ysealKey_w) (J := J_impl_ysealKey_w) (K := K) (H := [(Option.some (Go.Eng.HE.mk Bool.false (Go.Eng.HB.rows (Go.Sa.B.i64 _))))]) (IT_impl_ysealKey_w_0_ok N) (by kernel_rfl) rfl ((e_impl_ysealKey_w N _ _ _ _ K).trans h)
  · cases h
end Go.Sa
