import Derived.Test.YtnopbegjbbbdhaaSpec
import Derived.Test.YtnopbegjbbbdhaaPLb
import Derived.Test.YtnopbegjbbbdhaaW6
set_option linter.all false
namespace Go.Sa
open Go Go.Eng Go.Proofs
set_option maxRecDepth 100000
/-! ### (*loop.example/g00038/spec.l01Src).anyBoard -/
abbrev sl_spec_l01Src_anyBoard_Wr : SlotT := [(1, ([0, 2, 3, 4], [2, 3]))]
abbrev J_spec_l01Src_anyBoard_Wr : JT := jn [] [] [(10, [4, 9, 13, 17])]
noncomputable def O_spec_l01Src_anyBoard_Wr (N : Nat) : Orc E := addFn 103 (o_spec_l01Src_n_Wr N) (addFn 129 (o_spec_l01Src_one_Wr N) (addFn 163 (o_spec_l01Src_board_Wr N) (noFn)))
def pa_spec_l01Src_anyBoard_Wr__o_spec_l01Src_n_Wr (N : Nat) (G_spec_l01Src_n_Wr : ∀ {R : Type} (n : Int) (b : Bool) (n1 : Int) (n2 : Int) (n3 : Int) (l : List Int) (k : Int → Int → Int → Option R), Option R) (G_spec_l01Src_one_Wr : ∀ {R : Type} (n : Int) (b : Bool) (n1 : Int) (n2 : Int) (n3 : Int) (l : List Int) (k : Bool → Int → Int → Option R), Option R) (G_spec_l01Src_board_Wr : ∀ {R : Type} (b : Bool) (n : Int) (n1 : Int) (n2 : Int) (l : List Int) (k : Int → Int → Bool → Int → Int → (List Go.Sa.Device) → Option R), Option R) {R : Type} (args : List AV) (H : Hp E) (K : AV → Hp E → Option R) : Option R :=
  match args, H with
  | [(Go.Eng.AV.sc (Go.Eng.SV.ptr 0 0 0)), (Go.Eng.AV.sc (Go.Eng.SV.int Go.IntKind.i64 n))], [(Option.some (Go.Eng.HE.mk Bool.false (Go.Eng.HB.exp Option.none [(Go.Eng.SV.slc 1 Option.none b), (Go.Eng.SV.int Go.IntKind.i64 n1), (Go.Eng.SV.int Go.IntKind.u64 n2), (Go.Eng.SV.int Go.IntKind.i64 n3)]))), (Option.some (Go.Eng.HE.mk Bool.true (Go.Eng.HB.rows (Go.Sa.B.u8 l))))] => G_spec_l01Src_n_Wr n b n1 n2 n3 l (fun n4 n5 n6 => K (Go.Eng.AV.sc (Go.Eng.SV.int Go.IntKind.i64 n4)) [(Option.some (Go.Eng.HE.mk Bool.false (Go.Eng.HB.exp Option.none [(Go.Eng.SV.slc 1 Option.none b), (Go.Eng.SV.int Go.IntKind.i64 n5), (Go.Eng.SV.int Go.IntKind.u64 n6), (Go.Eng.SV.int Go.IntKind.i64 n3)]))), (Option.some (Go.Eng.HE.mk Bool.true (Go.Eng.HB.rows (Go.Sa.B.u8 l))))])
  | _, _ => none
def pa_spec_l01Src_anyBoard_Wr__o_spec_l01Src_one_Wr (N : Nat) (G_spec_l01Src_n_Wr : ∀ {R : Type} (n : Int) (b : Bool) (n1 : Int) (n2 : Int) (n3 : Int) (l : List Int) (k : Int → Int → Int → Option R), Option R) (G_spec_l01Src_one_Wr : ∀ {R : Type} (n : Int) (b : Bool) (n1 : Int) (n2 : Int) (n3 : Int) (l : List Int) (k : Bool → Int → Int → Option R), Option R) (G_spec_l01Src_board_Wr : ∀ {R : Type} (b : Bool) (n : Int) (n1 : Int) (n2 : Int) (l : List Int) (k : Int → Int → Bool → Int → Int → (List Go.Sa.Device) → Option R), Option R) {R : Type} (args : List AV) (H : Hp E) (K : AV → Hp E → Option R) : Option R :=
  match args, H with
  | [(Go.Eng.AV.sc (Go.Eng.SV.ptr 0 0 0)), (Go.Eng.AV.sc (Go.Eng.SV.int Go.IntKind.i64 n))], [(Option.some (Go.Eng.HE.mk Bool.false (Go.Eng.HB.exp Option.none [(Go.Eng.SV.slc 1 Option.none b), (Go.Eng.SV.int Go.IntKind.i64 n1), (Go.Eng.SV.int Go.IntKind.u64 n2), (Go.Eng.SV.int Go.IntKind.i64 n3)]))), (Option.some (Go.Eng.HE.mk Bool.true (Go.Eng.HB.rows (Go.Sa.B.u8 l))))] => G_spec_l01Src_one_Wr n b n1 n2 n3 l (fun b1 n7 n8 => K (Go.Eng.AV.sc (Go.Eng.SV.bool b1)) [(Option.some (Go.Eng.HE.mk Bool.false (Go.Eng.HB.exp Option.none [(Go.Eng.SV.slc 1 Option.none b), (Go.Eng.SV.int Go.IntKind.i64 n7), (Go.Eng.SV.int Go.IntKind.u64 n8), (Go.Eng.SV.int Go.IntKind.i64 n3)]))), (Option.some (Go.Eng.HE.mk Bool.true (Go.Eng.HB.rows (Go.Sa.B.u8 l))))])
  | _, _ => none
def pa_spec_l01Src_anyBoard_Wr__o_spec_l01Src_board_Wr (N : Nat) (G_spec_l01Src_n_Wr : ∀ {R : Type} (n : Int) (b : Bool) (n1 : Int) (n2 : Int) (n3 : Int) (l : List Int) (k : Int → Int → Int → Option R), Option R) (G_spec_l01Src_one_Wr : ∀ {R : Type} (n : Int) (b : Bool) (n1 : Int) (n2 : Int) (n3 : Int) (l : List Int) (k : Bool → Int → Int → Option R), Option R) (G_spec_l01Src_board_Wr : ∀ {R : Type} (b : Bool) (n : Int) (n1 : Int) (n2 : Int) (l : List Int) (k : Int → Int → Bool → Int → Int → (List Go.Sa.Device) → Option R), Option R) {R : Type} (args : List AV) (H : Hp E) (K : AV → Hp E → Option R) : Option R :=
  match args, H with
  | [(Go.Eng.AV.sc (Go.Eng.SV.ptr 0 0 0))], [(Option.some (Go.Eng.HE.mk Bool.false (Go.Eng.HB.exp Option.none [(Go.Eng.SV.slc 1 Option.none b), (Go.Eng.SV.int Go.IntKind.i64 n), (Go.Eng.SV.int Go.IntKind.u64 n1), (Go.Eng.SV.int Go.IntKind.i64 n2)]))), (Option.some (Go.Eng.HE.mk Bool.true (Go.Eng.HB.rows (Go.Sa.B.u8 l))))] => G_spec_l01Src_board_Wr b n n1 n2 l (fun n35 n36 b5 n37 n38 l5 => K (Go.Eng.AV.agg [(Go.Eng.SV.int Go.IntKind.i64 n35), (Go.Eng.SV.int Go.IntKind.i64 n36), (Go.Eng.SV.slc 2 Option.none b5)]) [(Option.some (Go.Eng.HE.mk Bool.false (Go.Eng.HB.exp Option.none [(Go.Eng.SV.slc 1 Option.none b), (Go.Eng.SV.int Go.IntKind.i64 n37), (Go.Eng.SV.int Go.IntKind.u64 n38), (Go.Eng.SV.int Go.IntKind.i64 n2)]))), (Option.some (Go.Eng.HE.mk Bool.true (Go.Eng.HB.rows (Go.Sa.B.u8 l)))), (Option.some (Go.Eng.HE.mk Bool.false (Go.Eng.HB.rows (Go.Sa.B.iDevice l5))))])
  | _, _ => none
noncomputable def OA_spec_l01Src_anyBoard_Wr (N : Nat) (G_spec_l01Src_n_Wr : ∀ {R : Type} (n : Int) (b : Bool) (n1 : Int) (n2 : Int) (n3 : Int) (l : List Int) (k : Int → Int → Int → Option R), Option R) (G_spec_l01Src_one_Wr : ∀ {R : Type} (n : Int) (b : Bool) (n1 : Int) (n2 : Int) (n3 : Int) (l : List Int) (k : Bool → Int → Int → Option R), Option R) (G_spec_l01Src_board_Wr : ∀ {R : Type} (b : Bool) (n : Int) (n1 : Int) (n2 : Int) (l : List Int) (k : Int → Int → Bool → Int → Int → (List Go.Sa.Device) → Option R), Option R) : Orc E := addFn 103 (pa_spec_l01Src_anyBoard_Wr__o_spec_l01Src_n_Wr N G_spec_l01Src_n_Wr G_spec_l01Src_one_Wr G_spec_l01Src_board_Wr) (addFn 129 (pa_spec_l01Src_anyBoard_Wr__o_spec_l01Src_one_Wr N G_spec_l01Src_n_Wr G_spec_l01Src_one_Wr G_spec_l01Src_board_Wr) (addFn 163 (pa_spec_l01Src_anyBoard_Wr__o_spec_l01Src_board_Wr N G_spec_l01Src_n_Wr G_spec_l01Src_one_Wr G_spec_l01Src_board_Wr) (noFn)))
theorem O_spec_l01Src_anyBoard_Wr_ok (N : Nat) : OrcOk (O_spec_l01Src_anyBoard_Wr N) := addFn_ok (o_spec_l01Src_n_Wr_ok N) (addFn_ok (o_spec_l01Src_one_Wr_ok N) (addFn_ok (o_spec_l01Src_board_Wr_ok N) (noFn_ok)))
def s_spec_l01Src_anyBoard_Wr_1 (N : Nat) {R : Type} (b3 : Bool) (n30 : Int) (l2 : List Int) (n31 : Int) (n32 : Int) (b4 : Bool) (l3 : List Go.Sa.Device) (n33 : Int) (n34 : Int) (n27 : Int) (n28 : Int) (n29 : Int) (b5 : Bool) (l4 : List Go.Sa.Device) (ag : Int → Int → Int → Bool → (List Go.Sa.Device) → Option R)  (kN : Int → Int → Bool → (List Go.Sa.Device) → Option R) : Option R :=
  (g_spec_l01Src_n_Wr N (3 : Int) b3 n28 n29 n30 l2 fun n35 n36 n37 =>
  (cond (decide ((n27 < (Go.IntKind.wrap Go.IntKind.i64 ((15 : Int) + n35)))))
  (cond (Go.Eng.roomOk ((List.length l4) + (List.length [(Go.Sa.Device.mk (1 : Int) n27 (0 : Int))])) 24)
    (ag (Go.IntKind.wrap Go.IntKind.i64 (n27 + (1 : Int))) n36 n37 (cond (Nat.beq (List.length [(Go.Sa.Device.mk (1 : Int) n27 (0 : Int))]) 0) b5 Bool.false) (l4 ++ [(Go.Sa.Device.mk (1 : Int) n27 (0 : Int))]))
    none)
  (kN n36 n37 b5 l4)))
def ga_s_spec_l01Src_anyBoard_Wr_1 (N : Nat) (G_spec_l01Src_n_Wr : ∀ {R : Type} (n : Int) (b : Bool) (n1 : Int) (n2 : Int) (n3 : Int) (l : List Int) (k : Int → Int → Int → Option R), Option R) (G_spec_l01Src_one_Wr : ∀ {R : Type} (n : Int) (b : Bool) (n1 : Int) (n2 : Int) (n3 : Int) (l : List Int) (k : Bool → Int → Int → Option R), Option R) (G_spec_l01Src_board_Wr : ∀ {R : Type} (b : Bool) (n : Int) (n1 : Int) (n2 : Int) (l : List Int) (k : Int → Int → Bool → Int → Int → (List Go.Sa.Device) → Option R), Option R) {R : Type} (b3 : Bool) (n30 : Int) (l2 : List Int) (n31 : Int) (n32 : Int) (b4 : Bool) (l3 : List Go.Sa.Device) (n33 : Int) (n34 : Int) (n27 : Int) (n28 : Int) (n29 : Int) (b5 : Bool) (l4 : List Go.Sa.Device) (ag : Int → Int → Int → Bool → (List Go.Sa.Device) → Option R)  (kN : Int → Int → Bool → (List Go.Sa.Device) → Option R) : Option R :=
  (G_spec_l01Src_n_Wr (3 : Int) b3 n28 n29 n30 l2 fun n35 n36 n37 =>
  (cond (decide ((n27 < (Go.IntKind.wrap Go.IntKind.i64 ((15 : Int) + n35)))))
  (cond (Go.Eng.roomOk ((List.length l4) + (List.length [(Go.Sa.Device.mk (1 : Int) n27 (0 : Int))])) 24)
    (ag (Go.IntKind.wrap Go.IntKind.i64 (n27 + (1 : Int))) n36 n37 (cond (Nat.beq (List.length [(Go.Sa.Device.mk (1 : Int) n27 (0 : Int))]) 0) b5 Bool.false) (l4 ++ [(Go.Sa.Device.mk (1 : Int) n27 (0 : Int))]))
    none)
  (kN n36 n37 b5 l4)))
def l_spec_l01Src_anyBoard_Wr_1 (N : Nat) {R : Type} (b3 : Bool) (n30 : Int) (l2 : List Int) (n31 : Int) (n32 : Int) (b4 : Bool) (l3 : List Go.Sa.Device) (n33 : Int) (n34 : Int) (kN : Int → Int → Bool → (List Go.Sa.Device) → Option R) : Nat → Int → Int → Int → Bool → (List Go.Sa.Device) → Option R
  | 0, _, _, _, _, _ => none
  | f + 1, n27, n28, n29, b5, l4 => s_spec_l01Src_anyBoard_Wr_1 N b3 n30 l2 n31 n32 b4 l3 n33 n34 n27 n28 n29 b5 l4 (fun n27 n28 n29 b5 l4 => l_spec_l01Src_anyBoard_Wr_1 N b3 n30 l2 n31 n32 b4 l3 n33 n34 kN f n27 n28 n29 b5 l4)  kN
def c_spec_l01Src_anyBoard_Wr_1 (N : Nat) {R : Type} (b3 : Bool) (n30 : Int) (l2 : List Int) (n31 : Int) (n32 : Int) (b4 : Bool) (l3 : List Go.Sa.Device) (n33 : Int) (n34 : Int) (n27 : Int) (n28 : Int) (n29 : Int) (b5 : Bool) (l4 : List Go.Sa.Device) (kN : Int → Int → Bool → (List Go.Sa.Device) → Option R) : Option R := l_spec_l01Src_anyBoard_Wr_1 N b3 n30 l2 n31 n32 b4 l3 n33 n34 kN N n27 n28 n29 b5 l4
theorem ea_se_spec_l01Src_anyBoard_Wr_1 (N : Nat) (G_spec_l01Src_n_Wr : ∀ {R : Type} (n : Int) (b : Bool) (n1 : Int) (n2 : Int) (n3 : Int) (l : List Int) (k : Int → Int → Int → Option R), Option R) (G_spec_l01Src_one_Wr : ∀ {R : Type} (n : Int) (b : Bool) (n1 : Int) (n2 : Int) (n3 : Int) (l : List Int) (k : Bool → Int → Int → Option R), Option R) (G_spec_l01Src_board_Wr : ∀ {R : Type} (b : Bool) (n : Int) (n1 : Int) (n2 : Int) (l : List Int) (k : Int → Int → Bool → Int → Int → (List Go.Sa.Device) → Option R), Option R) {R : Type} (b3 : Bool) (n30 : Int) (l2 : List Int) (n31 : Int) (n32 : Int) (b4 : Bool) (l3 : List Go.Sa.Device) (n33 : Int) (n34 : Int) (n27 : Int) (n28 : Int) (n29 : Int) (b5 : Bool) (l4 : List Go.Sa.Device) (AG : List (Option AV) → Hp E → Option R) (KL : Ex → List (Option AV) → Hp E → Option R) :
    iterStep (E := E) (OA_spec_l01Src_anyBoard_Wr N G_spec_l01Src_n_Wr G_spec_l01Src_one_Wr G_spec_l01Src_board_Wr) (fun {R} => LI (noIt) 2 69 sl_spec_l01Src_anyBoard_Wr (R := R)) J_spec_l01Src_anyBoard_Wr 2 69 1 [0, 2, 3, 4] [2, 3] (body Go.Proofs.Try.f111 1) AG KL [(Option.some (Go.Eng.AV.sc (Go.Eng.SV.ptr 0 0 0))), (Option.some (Go.Eng.AV.sc (Go.Eng.SV.ptr 2 0 0))), (Option.some (Go.Eng.AV.sc (Go.Eng.SV.ptr 4 0 0))), (Option.some (Go.Eng.AV.sc (Go.Eng.SV.int Go.IntKind.i64 n27)))] [(Option.some (Go.Eng.HE.mk Bool.false (Go.Eng.HB.exp Option.none [(Go.Eng.SV.slc 1 Option.none b3), (Go.Eng.SV.int Go.IntKind.i64 n28), (Go.Eng.SV.int Go.IntKind.u64 n29), (Go.Eng.SV.int Go.IntKind.i64 n30)]))), (Option.some (Go.Eng.HE.mk Bool.true (Go.Eng.HB.rows (Go.Sa.B.u8 l2)))), (Option.some (Go.Eng.HE.mk Bool.false (Go.Eng.HB.exp Option.none [(Go.Eng.SV.int Go.IntKind.i64 n31), (Go.Eng.SV.int Go.IntKind.i64 n32), (Go.Eng.SV.slc 3 Option.none b4)]))), (Option.some (Go.Eng.HE.mk Bool.false (Go.Eng.HB.rows (Go.Sa.B.iDevice l3)))), (Option.some (Go.Eng.HE.mk Bool.false (Go.Eng.HB.exp Option.none [(Go.Eng.SV.int Go.IntKind.i64 n33), (Go.Eng.SV.int Go.IntKind.i64 n34), (Go.Eng.SV.slc 5 Option.none b5)]))), (Option.some (Go.Eng.HE.mk Bool.false (Go.Eng.HB.rows (Go.Sa.B.iDevice l4))))] =
      ga_s_spec_l01Src_anyBoard_Wr_1 N G_spec_l01Src_n_Wr G_spec_l01Src_one_Wr G_spec_l01Src_board_Wr b3 n30 l2 n31 n32 b4 l3 n33 n34 n27 n28 n29 b5 l4 (fun n27 n28 n29 b5 l4 => AG [(Option.some (Go.Eng.AV.sc (Go.Eng.SV.ptr 0 0 0))), (Option.some (Go.Eng.AV.sc (Go.Eng.SV.ptr 2 0 0))), (Option.some (Go.Eng.AV.sc (Go.Eng.SV.ptr 4 0 0))), (Option.some (Go.Eng.AV.sc (Go.Eng.SV.int Go.IntKind.i64 n27)))] [(Option.some (Go.Eng.HE.mk Bool.false (Go.Eng.HB.exp Option.none [(Go.Eng.SV.slc 1 Option.none b3), (Go.Eng.SV.int Go.IntKind.i64 n28), (Go.Eng.SV.int Go.IntKind.u64 n29), (Go.Eng.SV.int Go.IntKind.i64 n30)]))), (Option.some (Go.Eng.HE.mk Bool.true (Go.Eng.HB.rows (Go.Sa.B.u8 l2)))), (Option.some (Go.Eng.HE.mk Bool.false (Go.Eng.HB.exp Option.none [(Go.Eng.SV.int Go.IntKind.i64 n31), (Go.Eng.SV.int Go.IntKind.i64 n32), (Go.Eng.SV.slc 3 Option.none b4)]))), (Option.some (Go.Eng.HE.mk Bool.false (Go.Eng.HB.rows (Go.Sa.B.iDevice l3)))), (Option.some (Go.Eng.HE.mk Bool.false (Go.Eng.HB.exp Option.none [(Go.Eng.SV.int Go.IntKind.i64 n33), (Go.Eng.SV.int Go.IntKind.i64 n34), (Go.Eng.SV.slc 5 Option.none b5)]))), (Option.some (Go.Eng.HE.mk Bool.false (Go.Eng.HB.rows (Go.Sa.B.iDevice l4))))])  (fun n44 n45 b8 l7 => KL Go.Eng.Ex.normal [(Option.some (Go.Eng.AV.sc (Go.Eng.SV.ptr 2 0 0))), (Option.some (Go.Eng.AV.sc (Go.Eng.SV.ptr 4 0 0)))] [(Option.some (Go.Eng.HE.mk Bool.false (Go.Eng.HB.exp Option.none [(Go.Eng.SV.slc 1 Option.none b3), (Go.Eng.SV.int Go.IntKind.i64 n44), (Go.Eng.SV.int Go.IntKind.u64 n45), (Go.Eng.SV.int Go.IntKind.i64 n30)]))), (Option.some (Go.Eng.HE.mk Bool.true (Go.Eng.HB.rows (Go.Sa.B.u8 l2)))), (Option.some (Go.Eng.HE.mk Bool.false (Go.Eng.HB.exp Option.none [(Go.Eng.SV.int Go.IntKind.i64 n31), (Go.Eng.SV.int Go.IntKind.i64 n32), (Go.Eng.SV.slc 3 Option.none b4)]))), (Option.some (Go.Eng.HE.mk Bool.false (Go.Eng.HB.rows (Go.Sa.B.iDevice l3)))), (Option.some (Go.Eng.HE.mk Bool.false (Go.Eng.HB.exp Option.none [(Go.Eng.SV.int Go.IntKind.i64 n33), (Go.Eng.SV.int Go.IntKind.i64 n34), (Go.Eng.SV.slc 5 Option.none b8)]))), (Option.some (Go.Eng.HE.mk Bool.false (Go.Eng.HB.rows (Go.Sa.B.iDevice l7))))]) := by kernel_rfl
theorem se_spec_l01Src_anyBoard_Wr_1 (N : Nat) {R : Type} (b3 : Bool) (n30 : Int) (l2 : List Int) (n31 : Int) (n32 : Int) (b4 : Bool) (l3 : List Go.Sa.Device) (n33 : Int) (n34 : Int) (n27 : Int) (n28 : Int) (n29 : Int) (b5 : Bool) (l4 : List Go.Sa.Device) (AG : List (Option AV) → Hp E → Option R) (KL : Ex → List (Option AV) → Hp E → Option R) :
    iterStep (E := E) (O_spec_l01Src_anyBoard_Wr N) (fun {R} => LI (noIt) 2 69 sl_spec_l01Src_anyBoard_Wr (R := R)) J_spec_l01Src_anyBoard_Wr 2 69 1 [0, 2, 3, 4] [2, 3] (body Go.Proofs.Try.f111 1) AG KL [(Option.some (Go.Eng.AV.sc (Go.Eng.SV.ptr 0 0 0))), (Option.some (Go.Eng.AV.sc (Go.Eng.SV.ptr 2 0 0))), (Option.some (Go.Eng.AV.sc (Go.Eng.SV.ptr 4 0 0))), (Option.some (Go.Eng.AV.sc (Go.Eng.SV.int Go.IntKind.i64 n27)))] [(Option.some (Go.Eng.HE.mk Bool.false (Go.Eng.HB.exp Option.none [(Go.Eng.SV.slc 1 Option.none b3), (Go.Eng.SV.int Go.IntKind.i64 n28), (Go.Eng.SV.int Go.IntKind.u64 n29), (Go.Eng.SV.int Go.IntKind.i64 n30)]))), (Option.some (Go.Eng.HE.mk Bool.true (Go.Eng.HB.rows (Go.Sa.B.u8 l2)))), (Option.some (Go.Eng.HE.mk Bool.false (Go.Eng.HB.exp Option.none [(Go.Eng.SV.int Go.IntKind.i64 n31), (Go.Eng.SV.int Go.IntKind.i64 n32), (Go.Eng.SV.slc 3 Option.none b4)]))), (Option.some (Go.Eng.HE.mk Bool.false (Go.Eng.HB.rows (Go.Sa.B.iDevice l3)))), (Option.some (Go.Eng.HE.mk Bool.false (Go.Eng.HB.exp Option.none [(Go.Eng.SV.int Go.IntKind.i64 n33), (Go.Eng.SV.int Go.IntKind.i64 n34), (Go.Eng.SV.slc 5 Option.none b5)]))), (Option.some (Go.Eng.HE.mk Bool.false (Go.Eng.HB.rows (Go.Sa.B.iDevice l4))))] =
      s_spec_l01Src_anyBoard_Wr_1 N b3 n30 l2 n31 n32 b4 l3 n33 n34 n27 n28 n29 b5 l4 (fun n27 n28 n29 b5 l4 => AG [(Option.some (Go.Eng.AV.sc (Go.Eng.SV.ptr 0 0 0))), (Option.some (Go.Eng.AV.sc (Go.Eng.SV.ptr 2 0 0))), (Option.some (Go.Eng.AV.sc (Go.Eng.SV.ptr 4 0 0))), (Option.some (Go.Eng.AV.sc (Go.Eng.SV.int Go.IntKind.i64 n27)))] [(Option.some (Go.Eng.HE.mk Bool.false (Go.Eng.HB.exp Option.none [(Go.Eng.SV.slc 1 Option.none b3), (Go.Eng.SV.int Go.IntKind.i64 n28), (Go.Eng.SV.int Go.IntKind.u64 n29), (Go.Eng.SV.int Go.IntKind.i64 n30)]))), (Option.some (Go.Eng.HE.mk Bool.true (Go.Eng.HB.rows (Go.Sa.B.u8 l2)))), (Option.some (Go.Eng.HE.mk Bool.false (Go.Eng.HB.exp Option.none [(Go.Eng.SV.int Go.IntKind.i64 n31), (Go.Eng.SV.int Go.IntKind.i64 n32), (Go.Eng.SV.slc 3 Option.none b4)]))), (Option.some (Go.Eng.HE.mk Bool.false (Go.Eng.HB.rows (Go.Sa.B.iDevice l3)))), (Option.some (Go.Eng.HE.mk Bool.false (Go.Eng.HB.exp Option.none [(Go.Eng.SV.int Go.IntKind.i64 n33), (Go.Eng.SV.int Go.IntKind.i64 n34), (Go.Eng.SV.slc 5 Option.none b5)]))), (Option.some (Go.Eng.HE.mk Bool.false (Go.Eng.HB.rows (Go.Sa.B.iDevice l4))))])  (fun n44 n45 b8 l7 => KL Go.Eng.Ex.normal [(Option.some (Go.Eng.AV.sc (Go.Eng.SV.ptr 2 0 0))), (Option.some (Go.Eng.AV.sc (Go.Eng.SV.ptr 4 0 0)))] [(Option.some (Go.Eng.HE.mk Bool.false (Go.Eng.HB.exp Option.none [(Go.Eng.SV.slc 1 Option.none b3), (Go.Eng.SV.int Go.IntKind.i64 n44), (Go.Eng.SV.int Go.IntKind.u64 n45), (Go.Eng.SV.int Go.IntKind.i64 n30)]))), (Option.some (Go.Eng.HE.mk Bool.true (Go.Eng.HB.rows (Go.Sa.B.u8 l2)))), (Option.some (Go.Eng.HE.mk Bool.false (Go.Eng.HB.exp Option.none [(Go.Eng.SV.int Go.IntKind.i64 n31), (Go.Eng.SV.int Go.IntKind.i64 n32), (Go.Eng.SV.slc 3 Option.none b4)]))), (Option.some (Go.Eng.HE.mk Bool.false (Go.Eng.HB.rows (Go.Sa.B.iDevice l3)))), (Option.some (Go.Eng.HE.mk Bool.false (Go.Eng.HB.exp Option.none [(Go.Eng.SV.int Go.IntKind.i64 n33), (Go.Eng.SV.int Go.IntKind.i64 n34), (Go.Eng.SV.slc 5 Option.none b8)]))), (Option.some (Go.Eng.HE.mk Bool.false (Go.Eng.HB.rows (Go.Sa.B.iDevice l7))))]) := castPr (by kernel_rfl) (ea_se_spec_l01Src_anyBoard_Wr_1 N (g_spec_l01Src_n_Wr N) (g_spec_l01Src_one_Wr N) (g_spec_l01Src_board_Wr N) b3 n30 l2 n31 n32 b4 l3 n33 n34 n27 n28 n29 b5 l4 AG KL)
theorem le_spec_l01Src_anyBoard_Wr_1 (N : Nat) {R : Type} (b3 : Bool) (n30 : Int) (l2 : List Int) (n31 : Int) (n32 : Int) (b4 : Bool) (l3 : List Go.Sa.Device) (n33 : Int) (n34 : Int) (KL : Ex → List (Option AV) → Hp E → Option R) : ∀ (f : Nat), ∀ (n27 : Int) (n28 : Int) (n29 : Int) (b5 : Bool) (l4 : List Go.Sa.Device), iterK (E := E) (O_spec_l01Src_anyBoard_Wr N) (fun {R} => LI (noIt) 2 69 sl_spec_l01Src_anyBoard_Wr (R := R)) J_spec_l01Src_anyBoard_Wr 2 69 1 [0, 2, 3, 4] [2, 3] (body Go.Proofs.Try.f111 1) f [(Option.some (Go.Eng.AV.sc (Go.Eng.SV.ptr 0 0 0))), (Option.some (Go.Eng.AV.sc (Go.Eng.SV.ptr 2 0 0))), (Option.some (Go.Eng.AV.sc (Go.Eng.SV.ptr 4 0 0))), (Option.some (Go.Eng.AV.sc (Go.Eng.SV.int Go.IntKind.i64 n27)))] [(Option.some (Go.Eng.HE.mk Bool.false (Go.Eng.HB.exp Option.none [(Go.Eng.SV.slc 1 Option.none b3), (Go.Eng.SV.int Go.IntKind.i64 n28), (Go.Eng.SV.int Go.IntKind.u64 n29), (Go.Eng.SV.int Go.IntKind.i64 n30)]))), (Option.some (Go.Eng.HE.mk Bool.true (Go.Eng.HB.rows (Go.Sa.B.u8 l2)))), (Option.some (Go.Eng.HE.mk Bool.false (Go.Eng.HB.exp Option.none [(Go.Eng.SV.int Go.IntKind.i64 n31), (Go.Eng.SV.int Go.IntKind.i64 n32), (Go.Eng.SV.slc 3 Option.none b4)]))), (Option.some (Go.Eng.HE.mk Bool.false (Go.Eng.HB.rows (Go.Sa.B.iDevice l3)))), (Option.some (Go.Eng.HE.mk Bool.false (Go.Eng.HB.exp Option.none [(Go.Eng.SV.int Go.IntKind.i64 n33), (Go.Eng.SV.int Go.IntKind.i64 n34), (Go.Eng.SV.slc 5 Option.none b5)]))), (Option.some (Go.Eng.HE.mk Bool.false (Go.Eng.HB.rows (Go.Sa.B.iDevice l4))))] KL = l_spec_l01Src_anyBoard_Wr_1 N b3 n30 l2 n31 n32 b4 l3 n33 n34 (fun n44 n45 b8 l7 => KL Go.Eng.Ex.normal [(Option.some (Go.Eng.AV.sc (Go.Eng.SV.ptr 2 0 0))), (Option.some (Go.Eng.AV.sc (Go.Eng.SV.ptr 4 0 0)))] [(Option.some (Go.Eng.HE.mk Bool.false (Go.Eng.HB.exp Option.none [(Go.Eng.SV.slc 1 Option.none b3), (Go.Eng.SV.int Go.IntKind.i64 n44), (Go.Eng.SV.int Go.IntKind.u64 n45), (Go.Eng.SV.int Go.IntKind.i64 n30)]))), (Option.some (Go.Eng.HE.mk Bool.true (Go.Eng.HB.rows (Go.Sa.B.u8 l2)))), (Option.some (Go.Eng.HE.mk Bool.false (Go.Eng.HB.exp Option.none [(Go.Eng.SV.int Go.IntKind.i64 n31), (Go.Eng.SV.int Go.IntKind.i64 n32), (Go.Eng.SV.slc 3 Option.none b4)]))), (Option.some (Go.Eng.HE.mk Bool.false (Go.Eng.HB.rows (Go.Sa.B.iDevice l3)))), (Option.some (Go.Eng.HE.mk Bool.false (Go.Eng.HB.exp Option.none [(Go.Eng.SV.int Go.IntKind.i64 n33), (Go.Eng.SV.int Go.IntKind.i64 n34), (Go.Eng.SV.slc 5 Option.none b8)]))), (Option.some (Go.Eng.HE.mk Bool.false (Go.Eng.HB.rows (Go.Sa.B.iDevice l7))))]) f n27 n28 n29 b5 l4 := by
  intro f
  induction f with
  | zero => intros; rfl
  | succ f ih =>
    intro n27 n28 n29 b5 l4
    rw [iterK_succ, se_spec_l01Src_anyBoard_Wr_1]
    exact (congrArg (fun z0 => s_spec_l01Src_anyBoard_Wr_1 N b3 n30 l2 n31 n32 b4 l3 n33 n34 n27 n28 n29 b5 l4 z0 (fun n44 n45 b8 l7 => KL Go.Eng.Ex.normal [(Option.some (Go.Eng.AV.sc (Go.Eng.SV.ptr 2 0 0))), (Option.some (Go.Eng.AV.sc (Go.Eng.SV.ptr 4 0 0)))] [(Option.some (Go.Eng.HE.mk Bool.false (Go.Eng.HB.exp Option.none [(Go.Eng.SV.slc 1 Option.none b3), (Go.Eng.SV.int Go.IntKind.i64 n44), (Go.Eng.SV.int Go.IntKind.u64 n45), (Go.Eng.SV.int Go.IntKind.i64 n30)]))), (Option.some (Go.Eng.HE.mk Bool.true (Go.Eng.HB.rows (Go.Sa.B.u8 l2)))), (Option.some (Go.Eng.HE.mk Bool.false (Go.Eng.HB.exp Option.none [(Go.Eng.SV.int Go.IntKind.i64 n31), (Go.Eng.SV.int Go.IntKind.i64 n32), (Go.Eng.SV.slc 3 Option.none b4)]))), (Option.some (Go.Eng.HE.mk Bool.false (Go.Eng.HB.rows (Go.Sa.B.iDevice l3)))), (Option.some (Go.Eng.HE.mk Bool.false (Go.Eng.HB.exp Option.none [(Go.Eng.SV.int Go.IntKind.i64 n33), (Go.Eng.SV.int Go.IntKind.i64 n34), (Go.Eng.SV.slc 5 Option.none b8)]))), (Option.some (Go.Eng.HE.mk Bool.false (Go.Eng.HB.rows (Go.Sa.B.iDevice l7))))])) (funext fun n27 => funext fun n28 => funext fun n29 => funext fun b5 => funext fun l4 => ih n27 n28 n29 b5 l4))
def i_spec_l01Src_anyBoard_Wr_1 (N : Nat) {R : Type} (vs : List (Option AV)) (H : Hp E) (KL : Ex → List (Option AV) → Hp E → Option R) : Option R :=
  match vs, H with
  | [(Option.some (Go.Eng.AV.sc (Go.Eng.SV.ptr 0 0 0))), (Option.some (Go.Eng.AV.sc (Go.Eng.SV.ptr 2 0 0))), (Option.some (Go.Eng.AV.sc (Go.Eng.SV.ptr 4 0 0))), (Option.some (Go.Eng.AV.sc (Go.Eng.SV.int Go.IntKind.i64 n27)))], [(Option.some (Go.Eng.HE.mk Bool.false (Go.Eng.HB.exp Option.none [(Go.Eng.SV.slc 1 Option.none b3), (Go.Eng.SV.int Go.IntKind.i64 n28), (Go.Eng.SV.int Go.IntKind.u64 n29), (Go.Eng.SV.int Go.IntKind.i64 n30)]))), (Option.some (Go.Eng.HE.mk Bool.true (Go.Eng.HB.rows (Go.Sa.B.u8 l2)))), (Option.some (Go.Eng.HE.mk Bool.false (Go.Eng.HB.exp Option.none [(Go.Eng.SV.int Go.IntKind.i64 n31), (Go.Eng.SV.int Go.IntKind.i64 n32), (Go.Eng.SV.slc 3 Option.none b4)]))), (Option.some (Go.Eng.HE.mk Bool.false (Go.Eng.HB.rows (Go.Sa.B.iDevice l3)))), (Option.some (Go.Eng.HE.mk Bool.false (Go.Eng.HB.exp Option.none [(Go.Eng.SV.int Go.IntKind.i64 n33), (Go.Eng.SV.int Go.IntKind.i64 n34), (Go.Eng.SV.slc 5 Option.none b5)]))), (Option.some (Go.Eng.HE.mk Bool.false (Go.Eng.HB.rows (Go.Sa.B.iDevice l4))))] => c_spec_l01Src_anyBoard_Wr_1 N b3 n30 l2 n31 n32 b4 l3 n33 n34 n27 n28 n29 b5 l4 (fun n46 n47 b9 l8 => KL Go.Eng.Ex.normal [(Option.some (Go.Eng.AV.sc (Go.Eng.SV.ptr 2 0 0))), (Option.some (Go.Eng.AV.sc (Go.Eng.SV.ptr 4 0 0)))] [(Option.some (Go.Eng.HE.mk Bool.false (Go.Eng.HB.exp Option.none [(Go.Eng.SV.slc 1 Option.none b3), (Go.Eng.SV.int Go.IntKind.i64 n46), (Go.Eng.SV.int Go.IntKind.u64 n47), (Go.Eng.SV.int Go.IntKind.i64 n30)]))), (Option.some (Go.Eng.HE.mk Bool.true (Go.Eng.HB.rows (Go.Sa.B.u8 l2)))), (Option.some (Go.Eng.HE.mk Bool.false (Go.Eng.HB.exp Option.none [(Go.Eng.SV.int Go.IntKind.i64 n31), (Go.Eng.SV.int Go.IntKind.i64 n32), (Go.Eng.SV.slc 3 Option.none b4)]))), (Option.some (Go.Eng.HE.mk Bool.false (Go.Eng.HB.rows (Go.Sa.B.iDevice l3)))), (Option.some (Go.Eng.HE.mk Bool.false (Go.Eng.HB.exp Option.none [(Go.Eng.SV.int Go.IntKind.i64 n33), (Go.Eng.SV.int Go.IntKind.i64 n34), (Go.Eng.SV.slc 5 Option.none b9)]))), (Option.some (Go.Eng.HE.mk Bool.false (Go.Eng.HB.rows (Go.Sa.B.iDevice l8))))])
  | _, _ => none
noncomputable def IT_spec_l01Src_anyBoard_Wr_1 (N : Nat) : Its E := addIt 1 (i_spec_l01Src_anyBoard_Wr_1 N) (noIt)
theorem IT_spec_l01Src_anyBoard_Wr_1_ok (N : Nat) : ItOk (IT_spec_l01Src_anyBoard_Wr_1 N) 2 69 sl_spec_l01Src_anyBoard_Wr (lsB Go.Proofs.Try.f111 [1]) :=
  addItB_ok (inner := []) ok (O_spec_l01Src_anyBoard_Wr_ok N) (jn_ok _ _ _) (noIt_ok) rfl (by kernel_rfl) rfl fun vs H KL r h => by
    unfold i_spec_l01Src_anyBoard_Wr_1 at h
    split at h
    · exact ⟨_, (le_spec_l01Src_anyBoard_Wr_1 N _ _ _ _ _ _ _ _ _ KL N _ _ _ _ _).trans h⟩
    · cases h
def g_spec_l01Src_anyBoard_Wr (N : Nat) {R : Type} (b : Bool) (n : Int) (n1 : Int) (n2 : Int) (l : List Int) (k : Int → Int → Bool → Int → Int → (List Go.Sa.Device) → Option R) : Option R :=
  (g_spec_l01Src_board_Wr N b n n1 n2 l fun n3 n4 b1 n5 n6 l1 =>
  (g_spec_l01Src_one_Wr N (5 : Int) b n5 n6 n2 l fun b2 n7 n8 =>
  (cond (!b2)
  (k n3 n4 b1 n7 n8 l1)
  (g_spec_l01Src_n_Wr N (6 : Int) b n7 n8 n2 l fun n9 n10 n11 =>
    (cond (n9 == (0 : Int))
    (g_spec_l01Src_n_Wr N (3 : Int) b n10 n11 n2 l fun n12 n13 n14 =>
      (cond ((decide (((0 : Int) ≤ n12))) && (decide ((n12 < (3 : Int)))))
      (elemK [(1 : Int), (256 : Int), (257 : Int)] (Int.toNat n12) fun x =>
        (k x n4 b1 n13 n14 l1))
      none))
    (cond (n9 == (1 : Int))
      (g_spec_l01Src_n_Wr N (2 : Int) b n10 n11 n2 l fun n15 n16 n17 =>
        (cond ((decide (((0 : Int) ≤ n15))) && (decide ((n15 < (2 : Int)))))
        (elemK [(0 : Int), (9 : Int)] (Int.toNat n15) fun x1 =>
          (k n3 x1 b1 n16 n17 l1))
        none))
      (cond (n9 == (2 : Int))
        (g_spec_l01Src_n_Wr N (4 : Int) b n10 n11 n2 l fun n18 n19 n20 =>
          (cond ((decide (((0 : Int) ≤ n18))) && (decide ((n18 < (4 : Int)))))
          (elemK [(0 : Int), (255 : Int), (256 : Int), (3 : Int)] (Int.toNat n18) fun x2 =>
            (g_spec_l01Src_n_Wr N (4 : Int) b n19 n20 n2 l fun n21 n22 n23 =>
            (cond ((decide (((0 : Int) ≤ n21))) && (decide ((n21 < (4 : Int)))))
            (elemK [(100 : Int), (2047 : Int), (2048 : Int), (0 : Int)] (Int.toNat n21) fun x3 =>
              (g_spec_l01Src_n_Wr N (9 : Int) b n22 n23 n2 l fun n24 n25 n26 =>
              (cond (Go.Eng.roomOk ((List.length l1) + (List.length [(Go.Sa.Device.mk x2 x3 (Go.IntKind.wrap Go.IntKind.i64 (n24 - (1 : Int))))])) 24)
              (k n3 n4 (cond (Nat.beq (List.length [(Go.Sa.Device.mk x2 x3 (Go.IntKind.wrap Go.IntKind.i64 (n24 - (1 : Int))))]) 0) b1 Bool.false) n25 n26 (l1 ++ [(Go.Sa.Device.mk x2 x3 (Go.IntKind.wrap Go.IntKind.i64 (n24 - (1 : Int))))]))
              none)))
            none)))
          none))
        (cond (n9 == (3 : Int))
          (c_spec_l01Src_anyBoard_Wr_1 N b n2 l (0 : Int) (0 : Int) Bool.true [] n3 n4 (0 : Int) n10 n11 Bool.false [] fun n38 n39 b6 l5 =>
            (k n3 n4 b6 n38 n39 l5))
          (k n3 n4 b1 n10 n11 l1)))))))))
def ga_g_spec_l01Src_anyBoard_Wr (N : Nat) (G_spec_l01Src_n_Wr : ∀ {R : Type} (n : Int) (b : Bool) (n1 : Int) (n2 : Int) (n3 : Int) (l : List Int) (k : Int → Int → Int → Option R), Option R) (G_spec_l01Src_one_Wr : ∀ {R : Type} (n : Int) (b : Bool) (n1 : Int) (n2 : Int) (n3 : Int) (l : List Int) (k : Bool → Int → Int → Option R), Option R) (G_spec_l01Src_board_Wr : ∀ {R : Type} (b : Bool) (n : Int) (n1 : Int) (n2 : Int) (l : List Int) (k : Int → Int → Bool → Int → Int → (List Go.Sa.Device) → Option R), Option R) {R : Type} (b : Bool) (n : Int) (n1 : Int) (n2 : Int) (l : List Int) (k : Int → Int → Bool → Int → Int → (List Go.Sa.Device) → Option R) : Option R :=
  (G_spec_l01Src_board_Wr b n n1 n2 l fun n3 n4 b1 n5 n6 l1 =>
  (G_spec_l01Src_one_Wr (5 : Int) b n5 n6 n2 l fun b2 n7 n8 =>
  (cond (!b2)
  (k n3 n4 b1 n7 n8 l1)
  (G_spec_l01Src_n_Wr (6 : Int) b n7 n8 n2 l fun n9 n10 n11 =>
    (cond (n9 == (0 : Int))
    (G_spec_l01Src_n_Wr (3 : Int) b n10 n11 n2 l fun n12 n13 n14 =>
      (cond ((decide (((0 : Int) ≤ n12))) && (decide ((n12 < (3 : Int)))))
      (elemK [(1 : Int), (256 : Int), (257 : Int)] (Int.toNat n12) fun x =>
        (k x n4 b1 n13 n14 l1))
      none))
    (cond (n9 == (1 : Int))
      (G_spec_l01Src_n_Wr (2 : Int) b n10 n11 n2 l fun n15 n16 n17 =>
        (cond ((decide (((0 : Int) ≤ n15))) && (decide ((n15 < (2 : Int)))))
        (elemK [(0 : Int), (9 : Int)] (Int.toNat n15) fun x1 =>
          (k n3 x1 b1 n16 n17 l1))
        none))
      (cond (n9 == (2 : Int))
        (G_spec_l01Src_n_Wr (4 : Int) b n10 n11 n2 l fun n18 n19 n20 =>
          (cond ((decide (((0 : Int) ≤ n18))) && (decide ((n18 < (4 : Int)))))
          (elemK [(0 : Int), (255 : Int), (256 : Int), (3 : Int)] (Int.toNat n18) fun x2 =>
            (G_spec_l01Src_n_Wr (4 : Int) b n19 n20 n2 l fun n21 n22 n23 =>
            (cond ((decide (((0 : Int) ≤ n21))) && (decide ((n21 < (4 : Int)))))
            (elemK [(100 : Int), (2047 : Int), (2048 : Int), (0 : Int)] (Int.toNat n21) fun x3 =>
              (G_spec_l01Src_n_Wr (9 : Int) b n22 n23 n2 l fun n24 n25 n26 =>
              (cond (Go.Eng.roomOk ((List.length l1) + (List.length [(Go.Sa.Device.mk x2 x3 (Go.IntKind.wrap Go.IntKind.i64 (n24 - (1 : Int))))])) 24)
              (k n3 n4 (cond (Nat.beq (List.length [(Go.Sa.Device.mk x2 x3 (Go.IntKind.wrap Go.IntKind.i64 (n24 - (1 : Int))))]) 0) b1 Bool.false) n25 n26 (l1 ++ [(Go.Sa.Device.mk x2 x3 (Go.IntKind.wrap Go.IntKind.i64 (n24 - (1 : Int))))]))
              none)))
            none)))
          none))
        (cond (n9 == (3 : Int))
          (c_spec_l01Src_anyBoard_Wr_1 N b n2 l (0 : Int) (0 : Int) Bool.true [] n3 n4 (0 : Int) n10 n11 Bool.false [] fun n38 n39 b6 l5 =>
            (k n3 n4 b6 n38 n39 l5))
          (k n3 n4 b1 n10 n11 l1)))))))))
theorem ea_e_spec_l01Src_anyBoard_Wr (N : Nat) (G_spec_l01Src_n_Wr : ∀ {R : Type} (n : Int) (b : Bool) (n1 : Int) (n2 : Int) (n3 : Int) (l : List Int) (k : Int → Int → Int → Option R), Option R) (G_spec_l01Src_one_Wr : ∀ {R : Type} (n : Int) (b : Bool) (n1 : Int) (n2 : Int) (n3 : Int) (l : List Int) (k : Bool → Int → Int → Option R), Option R) (G_spec_l01Src_board_Wr : ∀ {R : Type} (b : Bool) (n : Int) (n1 : Int) (n2 : Int) (l : List Int) (k : Int → Int → Bool → Int → Int → (List Go.Sa.Device) → Option R), Option R) {R : Type} (b : Bool) (n : Int) (n1 : Int) (n2 : Int) (l : List Int) (K : AV → Hp E → Option R) :
    runFnI (E := E) (OA_spec_l01Src_anyBoard_Wr N G_spec_l01Src_n_Wr G_spec_l01Src_one_Wr G_spec_l01Src_board_Wr) (IT_spec_l01Src_anyBoard_Wr_1 N) sl_spec_l01Src_anyBoard_Wr J_spec_l01Src_anyBoard_Wr Go.Proofs.Try.f111 [(Go.Eng.AV.sc (Go.Eng.SV.ptr 0 0 0))] [(Option.some (Go.Eng.HE.mk Bool.false (Go.Eng.HB.exp Option.none [(Go.Eng.SV.slc 1 Option.none b), (Go.Eng.SV.int Go.IntKind.i64 n), (Go.Eng.SV.int Go.IntKind.u64 n1), (Go.Eng.SV.int Go.IntKind.i64 n2)]))), (Option.some (Go.Eng.HE.mk Bool.true (Go.Eng.HB.rows (Go.Sa.B.u8 l))))] K =
      ga_g_spec_l01Src_anyBoard_Wr N G_spec_l01Src_n_Wr G_spec_l01Src_one_Wr G_spec_l01Src_board_Wr b n n1 n2 l (fun n40 n41 b7 n42 n43 l6 => K (Go.Eng.AV.agg [(Go.Eng.SV.int Go.IntKind.i64 n40), (Go.Eng.SV.int Go.IntKind.i64 n41), (Go.Eng.SV.slc 2 Option.none b7)]) [(Option.some (Go.Eng.HE.mk Bool.false (Go.Eng.HB.exp Option.none [(Go.Eng.SV.slc 1 Option.none b), (Go.Eng.SV.int Go.IntKind.i64 n42), (Go.Eng.SV.int Go.IntKind.u64 n43), (Go.Eng.SV.int Go.IntKind.i64 n2)]))), (Option.some (Go.Eng.HE.mk Bool.true (Go.Eng.HB.rows (Go.Sa.B.u8 l)))), (Option.some (Go.Eng.HE.mk Bool.false (Go.Eng.HB.rows (Go.Sa.B.iDevice l6))))]) := by kernel_rfl
theorem e_spec_l01Src_anyBoard_Wr (N : Nat) {R : Type} (b : Bool) (n : Int) (n1 : Int) (n2 : Int) (l : List Int) (K : AV → Hp E → Option R) :
    runFnI (E := E) (O_spec_l01Src_anyBoard_Wr N) (IT_spec_l01Src_anyBoard_Wr_1 N) sl_spec_l01Src_anyBoard_Wr J_spec_l01Src_anyBoard_Wr Go.Proofs.Try.f111 [(Go.Eng.AV.sc (Go.Eng.SV.ptr 0 0 0))] [(Option.some (Go.Eng.HE.mk Bool.false (Go.Eng.HB.exp Option.none [(Go.Eng.SV.slc 1 Option.none b), (Go.Eng.SV.int Go.IntKind.i64 n), (Go.Eng.SV.int Go.IntKind.u64 n1), (Go.Eng.SV.int Go.IntKind.i64 n2)]))), (Option.some (Go.Eng.HE.mk Bool.true (Go.Eng.HB.rows (Go.Sa.B.u8 l))))] K =
      g_spec_l01Src_anyBoard_Wr N b n n1 n2 l (fun n40 n41 b7 n42 n43 l6 => K (Go.Eng.AV.agg [(Go.Eng.SV.int Go.IntKind.i64 n40), (Go.Eng.SV.int Go.IntKind.i64 n41), (Go.Eng.SV.slc 2 Option.none b7)]) [(Option.some (Go.Eng.HE.mk Bool.false (Go.Eng.HB.exp Option.none [(Go.Eng.SV.slc 1 Option.none b), (Go.Eng.SV.int Go.IntKind.i64 n42), (Go.Eng.SV.int Go.IntKind.u64 n43), (Go.Eng.SV.int Go.IntKind.i64 n2)]))), (Option.some (Go.Eng.HE.mk Bool.true (Go.Eng.HB.rows (Go.Sa.B.u8 l)))), (Option.some (Go.Eng.HE.mk Bool.false (Go.Eng.HB.rows (Go.Sa.B.iDevice l6))))]) := castPr (by kernel_rfl) (ea_e_spec_l01Src_anyBoard_Wr N (g_spec_l01Src_n_Wr N) (g_spec_l01Src_one_Wr N) (g_spec_l01Src_board_Wr N) b n n1 n2 l K)
def o_spec_l01Src_anyBoard_Wr (N : Nat) {R : Type} (args : List AV) (H : Hp E) (K : AV → Hp E → Option R) : Option R :=
  match args, H with
  | [(Go.Eng.AV.sc (Go.Eng.SV.ptr 0 0 0))], [(Option.some (Go.Eng.HE.mk Bool.false (Go.Eng.HB.exp Option.none [(Go.Eng.SV.slc 1 Option.none b), (Go.Eng.SV.int Go.IntKind.i64 n), (Go.Eng.SV.int Go.IntKind.u64 n1), (Go.Eng.SV.int Go.IntKind.i64 n2)]))), (Option.some (Go.Eng.HE.mk Bool.true (Go.Eng.HB.rows (Go.Sa.B.u8 l))))] => g_spec_l01Src_anyBoard_Wr N b n n1 n2 l (fun n40 n41 b7 n42 n43 l6 => K (Go.Eng.AV.agg [(Go.Eng.SV.int Go.IntKind.i64 n40), (Go.Eng.SV.int Go.IntKind.i64 n41), (Go.Eng.SV.slc 2 Option.none b7)]) [(Option.some (Go.Eng.HE.mk Bool.false (Go.Eng.HB.exp Option.none [(Go.Eng.SV.slc 1 Option.none b), (Go.Eng.SV.int Go.IntKind.i64 n42), (Go.Eng.SV.int Go.IntKind.u64 n43), (Go.Eng.SV.int Go.IntKind.i64 n2)]))), (Option.some (Go.Eng.HE.mk Bool.true (Go.Eng.HB.rows (Go.Sa.B.u8 l)))), (Option.some (Go.Eng.HE.mk Bool.false (Go.Eng.HB.rows (Go.Sa.B.iDevice l6))))])
  | _, _ => none
theorem o_spec_l01Src_anyBoard_Wr_ok (N : Nat) : FnOk E 111 (o_spec_l01Src_anyBoard_Wr N) := by
  intro R args H K r h
  unfold o_spec_l01Src_anyBoard_Wr at h
  dsimp only at h
  split at h
  · exact fnB_ok (ids := [1]) (top := [1]) ok (O_spec_l01Src_anyBoard_Wr_ok N) (jn_ok _ _ _) Go.Proofs.Try.func111 (by kernel_rfl) (IT := IT_spec_l01Src_anyBoard_Wr_1 N) (sl := sl_spec_l01Src_anyBoard_Wr) (J := J_spec_l01Src_anyBoard_Wr) (K := K) (H := [(Option.some (Go.Eng.HE.mk Bool.false (Go.Eng.HB.exp Option.none [(Go.Eng.SV.slc 1 Option.none _), (Go.Eng.SV.int Go.IntKind.i64 _), (Go.Eng.SV.int Go.IntKind.u64 _), (Go.Eng.SV.int Go.IntKind.i64 _)]))), (Option.some (Go.Eng.HE.mk Bool.true (Go.Eng.HB.rows (Go.Sa.B.u8 _))))]) (IT_spec_l01Src_anyBoard_Wr_1_ok N) (by kernel_rfl) rfl ((e_spec_l01Src_anyBoard_Wr N _ _ _ _ _ K).trans h)
  · cases h
/-! ### loop.example/g00038/spec.DrawTablesOf -/
abbrev sl_spec_DrawTablesOf_r : SlotT := []
abbrev J_spec_DrawTablesOf_r : JT := jn [] [] []
noncomputable def O_spec_DrawTablesOf_r (N : Nat) : Orc E := addFn 111 (o_spec_l01Src_anyBoard_Wr N) (addFn 101 (o_spec_l01Source_r N) (noFn))
def pa_spec_DrawTablesOf_r__o_spec_l01Src_anyBoard_Wr (N : Nat) (G_spec_l01Src_anyBoard_Wr : ∀ {R : Type} (b : Bool) (n : Int) (n1 : Int) (n2 : Int) (l : List Int) (k : Int → Int → Bool → Int → Int → (List Go.Sa.Device) → Option R), Option R) (G_spec_l01Source_r : ∀ {R : Type} (b : Bool) (l : List Int) (k : Int → Int → Option R), Option R) {R : Type} (args : List AV) (H : Hp E) (K : AV → Hp E → Option R) : Option R :=
  match args, H with
  | [(Go.Eng.AV.sc (Go.Eng.SV.ptr 0 0 0))], [(Option.some (Go.Eng.HE.mk Bool.false (Go.Eng.HB.exp Option.none [(Go.Eng.SV.slc 1 Option.none b), (Go.Eng.SV.int Go.IntKind.i64 n), (Go.Eng.SV.int Go.IntKind.u64 n1), (Go.Eng.SV.int Go.IntKind.i64 n2)]))), (Option.some (Go.Eng.HE.mk Bool.true (Go.Eng.HB.rows (Go.Sa.B.u8 l))))] => G_spec_l01Src_anyBoard_Wr b n n1 n2 l (fun n40 n41 b7 n42 n43 l6 => K (Go.Eng.AV.agg [(Go.Eng.SV.int Go.IntKind.i64 n40), (Go.Eng.SV.int Go.IntKind.i64 n41), (Go.Eng.SV.slc 2 Option.none b7)]) [(Option.some (Go.Eng.HE.mk Bool.false (Go.Eng.HB.exp Option.none [(Go.Eng.SV.slc 1 Option.none b), (Go.Eng.SV.int Go.IntKind.i64 n42), (Go.Eng.SV.int Go.IntKind.u64 n43), (Go.Eng.SV.int Go.IntKind.i64 n2)]))), (Option.some (Go.Eng.HE.mk Bool.true (Go.Eng.HB.rows (Go.Sa.B.u8 l)))), (Option.some (Go.Eng.HE.mk Bool.false (Go.Eng.HB.rows (Go.Sa.B.iDevice l6))))])
  | _, _ => none
def pa_spec_DrawTablesOf_r__o_spec_l01Source_r (N : Nat) (G_spec_l01Src_anyBoard_Wr : ∀ {R : Type} (b : Bool) (n : Int) (n1 : Int) (n2 : Int) (l : List Int) (k : Int → Int → Bool → Int → Int → (List Go.Sa.Device) → Option R), Option R) (G_spec_l01Source_r : ∀ {R : Type} (b : Bool) (l : List Int) (k : Int → Int → Option R), Option R) {R : Type} (args : List AV) (H : Hp E) (K : AV → Hp E → Option R) : Option R :=
  match args, H with
  | [(Go.Eng.AV.sc (Go.Eng.SV.slc 0 Option.none b))], [(Option.some (Go.Eng.HE.mk Bool.true (Go.Eng.HB.rows (Go.Sa.B.u8 l))))] => G_spec_l01Source_r b l (fun n5 n6 => K (Go.Eng.AV.sc (Go.Eng.SV.ptr 1 0 0)) [(Option.some (Go.Eng.HE.mk Bool.true (Go.Eng.HB.rows (Go.Sa.B.u8 l)))), (Option.some (Go.Eng.HE.mk Bool.false (Go.Eng.HB.exp Option.none [(Go.Eng.SV.slc 0 Option.none b), (Go.Eng.SV.int Go.IntKind.i64 (0 : Int)), (Go.Eng.SV.int Go.IntKind.u64 n5), (Go.Eng.SV.int Go.IntKind.i64 n6)])))])
  | _, _ => none
noncomputable def OA_spec_DrawTablesOf_r (N : Nat) (G_spec_l01Src_anyBoard_Wr : ∀ {R : Type} (b : Bool) (n : Int) (n1 : Int) (n2 : Int) (l : List Int) (k : Int → Int → Bool → Int → Int → (List Go.Sa.Device) → Option R), Option R) (G_spec_l01Source_r : ∀ {R : Type} (b : Bool) (l : List Int) (k : Int → Int → Option R), Option R) : Orc E := addFn 111 (pa_spec_DrawTablesOf_r__o_spec_l01Src_anyBoard_Wr N G_spec_l01Src_anyBoard_Wr G_spec_l01Source_r) (addFn 101 (pa_spec_DrawTablesOf_r__o_spec_l01Source_r N G_spec_l01Src_anyBoard_Wr G_spec_l01Source_r) (noFn))
theorem O_spec_DrawTablesOf_r_ok (N : Nat) : OrcOk (O_spec_DrawTablesOf_r N) := addFn_ok (o_spec_l01Src_anyBoard_Wr_ok N) (addFn_ok (o_spec_l01Source_r_ok N) (noFn_ok))
def g_spec_DrawTablesOf_r (N : Nat) {R : Type} (b : Bool) (l : List Int) (k : Int → Int → Bool → (List Go.Sa.Device) → Option R) : Option R :=
  (g_spec_l01Source_r N b l fun n n1 =>
  (g_spec_l01Src_anyBoard_Wr N b (0 : Int) n n1 l fun n2 n3 b1 n4 n5 l1 =>
  (k n2 n3 b1 l1)))
def ga_g_spec_DrawTablesOf_r (N : Nat) (G_spec_l01Src_anyBoard_Wr : ∀ {R : Type} (b : Bool) (n : Int) (n1 : Int) (n2 : Int) (l : List Int) (k : Int → Int → Bool → Int → Int → (List Go.Sa.Device) → Option R), Option R) (G_spec_l01Source_r : ∀ {R : Type} (b : Bool) (l : List Int) (k : Int → Int → Option R), Option R) {R : Type} (b : Bool) (l : List Int) (k : Int → Int → Bool → (List Go.Sa.Device) → Option R) : Option R :=
  (G_spec_l01Source_r b l fun n n1 =>
  (G_spec_l01Src_anyBoard_Wr b (0 : Int) n n1 l fun n2 n3 b1 n4 n5 l1 =>
  (k n2 n3 b1 l1)))
theorem ea_e_spec_DrawTablesOf_r (N : Nat) (G_spec_l01Src_anyBoard_Wr : ∀ {R : Type} (b : Bool) (n : Int) (n1 : Int) (n2 : Int) (l : List Int) (k : Int → Int → Bool → Int → Int → (List Go.Sa.Device) → Option R), Option R) (G_spec_l01Source_r : ∀ {R : Type} (b : Bool) (l : List Int) (k : Int → Int → Option R), Option R) {R : Type} (b : Bool) (l : List Int) (K : AV → Hp E → Option R) :
    runFnI (E := E) (OA_spec_DrawTablesOf_r N G_spec_l01Src_anyBoard_Wr G_spec_l01Source_r) (noIt) sl_spec_DrawTablesOf_r J_spec_DrawTablesOf_r Go.Proofs.Try.f42 [(Go.Eng.AV.sc (Go.Eng.SV.slc 0 Option.none b))] [(Option.some (Go.Eng.HE.mk Bool.true (Go.Eng.HB.rows (Go.Sa.B.u8 l))))] K =
      ga_g_spec_DrawTablesOf_r N G_spec_l01Src_anyBoard_Wr G_spec_l01Source_r b l (fun n6 n7 b2 l2 => K (Go.Eng.AV.agg [(Go.Eng.SV.int Go.IntKind.i64 n6), (Go.Eng.SV.int Go.IntKind.i64 n7), (Go.Eng.SV.slc 1 Option.none b2)]) [(Option.some (Go.Eng.HE.mk Bool.true (Go.Eng.HB.rows (Go.Sa.B.u8 l)))), (Option.some (Go.Eng.HE.mk Bool.false (Go.Eng.HB.rows (Go.Sa.B.iDevice l2))))]) := by kernel_rfl
theorem e_spec_DrawTablesOf_r (N : Nat) {R : Type} (b : Bool) (l : List Int) (K : AV → Hp E → Option R) :
    runFnI (E := E) (O_spec_DrawTablesOf_r N) (noIt) sl_spec_DrawTablesOf_r J_spec_DrawTablesOf_r Go.Proofs.Try.f42 [(Go.Eng.AV.sc (Go.Eng.SV.slc 0 Option.none b))] [(Option.some (Go.Eng.HE.mk Bool.true (Go.Eng.HB.rows (Go.Sa.B.u8 l))))] K =
      g_spec_DrawTablesOf_r N b l (fun n6 n7 b2 l2 => K (Go.Eng.AV.agg [(Go.Eng.SV.int Go.IntKind.i64 n6), (Go.Eng.SV.int Go.IntKind.i64 n7), (Go.Eng.SV.slc 1 Option.none b2)]) [(Option.some (Go.Eng.HE.mk Bool.true (Go.Eng.HB.rows (Go.Sa.B.u8 l)))), (Option.some (Go.Eng.HE.mk Bool.false (Go.Eng.HB.rows (Go.Sa.B.iDevice l2))))]) := castPr (by kernel_rfl) (ea_e_spec_DrawTablesOf_r N (g_spec_l01Src_anyBoard_Wr N) (g_spec_l01Source_r N) b l K)
def o_spec_DrawTablesOf_r (N : Nat) {R : Type} (args : List AV) (H : Hp E) (K : AV → Hp E → Option R) : Option R :=
  match args, H with
  | [(Go.Eng.AV.sc (Go.Eng.SV.slc 0 Option.none b))], [(Option.some (Go.Eng.HE.mk Bool.true (Go.Eng.HB.rows (Go.Sa.B.u8 l))))] => g_spec_DrawTablesOf_r N b l (fun n6 n7 b2 l2 => K (Go.Eng.AV.agg [(Go.Eng.SV.int Go.IntKind.i64 n6), (Go.Eng.SV.int Go.IntKind.i64 n7), (Go.Eng.SV.slc 1 Option.none b2)]) [(Option.some (Go.Eng.HE.mk Bool.true (Go.Eng.HB.rows (Go.Sa.B.u8 l)))), (Option.some (Go.Eng.HE.mk Bool.false (Go.Eng.HB.rows (Go.Sa.B.iDevice l2))))])
  | _, _ => none
theorem o_spec_DrawTablesOf_r_ok (N : Nat) : FnOk E 42 (o_spec_DrawTablesOf_r N) := by
  intro R args H K r h
  unfold o_spec_DrawTablesOf_r at h
  dsimp only at h
  split at h
  · exact fnB_ok (ids := []) (top := []) ok (O_spec_DrawTablesOf_r_ok N) (jn_ok _ _ _) Go.Proofs.Try.func42 (by kernel_rfl) (IT := noIt) (sl := sl_spec_DrawTablesOf_r) (J := J_spec_DrawTablesOf_r) (K := K) (H := [(Option.some (Go.Eng.HE.mk Bool.true (Go.Eng.HB.rows (Go.Sa.B.u8 _))))]) (noIt_ok) (by kernel_rfl) rfl ((e_spec_DrawTablesOf_r N _ _ K).trans h)
  · cases h
/-! ### loop.example/g00038/impl.BoardFault -/
abbrev sl_impl_BoardFault_w : SlotT := [(0, ([1, 22, 23, 24], [2]))]
abbrev J_impl_BoardFault_w : JT := jn [(1, [(20, .b)]), (6, [(60, .b)])] [] []
noncomputable def O_impl_BoardFault_w (N : Nat) : Orc E := addFn 96 (o_impl_yin N) (noFn)
def pa_impl_BoardFault_w__o_impl_yin (N : Nat) (G_impl_yin : ∀ {R : Type} (n : Int) (n1 : Int) (n2 : Int) (k : Bool → Option R), Option R) {R : Type} (args : List AV) (H : Hp E) (K : AV → Hp E → Option R) : Option R :=
  match args, H with
  | [(Go.Eng.AV.sc (Go.Eng.SV.int Go.IntKind.i64 n)), (Go.Eng.AV.sc (Go.Eng.SV.int Go.IntKind.i64 n1)), (Go.Eng.AV.sc (Go.Eng.SV.int Go.IntKind.i64 n2))], [] => G_impl_yin n n1 n2 (fun b => K (Go.Eng.AV.sc (Go.Eng.SV.bool b)) [])
  | _, _ => none
noncomputable def OA_impl_BoardFault_w (N : Nat) (G_impl_yin : ∀ {R : Type} (n : Int) (n1 : Int) (n2 : Int) (k : Bool → Option R), Option R) : Orc E := addFn 96 (pa_impl_BoardFault_w__o_impl_yin N G_impl_yin) (noFn)
theorem O_impl_BoardFault_w_ok (N : Nat) : OrcOk (O_impl_BoardFault_w N) := addFn_ok (o_impl_yin_ok N) (noFn_ok)
def s_impl_BoardFault_w_0 (N : Nat) {R : Type} (b3 : Bool) (n2 : Int) (l1 : List Go.Sa.Device) (n4 : Int) (n5 : Int) (b4 : Bool) (n3 : Int) (ag : Int → Option R)  (kR : Option R) (kN : Option R) : Option R :=
  (cond (decide ((n3 < n2)))
  (cond ((decide (((0 : Int) ≤ n3))) && (decide ((n3 < (((List.length l1) : Nat) : Int)))))
    (elemK l1 (Int.toNat n3) fun x =>
      (oK (g_impl_yin N (Go.Sa.Device.fKind x) (1 : Int) (255 : Int) fun b5 =>
        (cond (!b5)
        (some Bool.true)
        (g_impl_yin N (Go.Sa.Device.fPort x) (0 : Int) (2047 : Int) fun b6 =>
          (cond (!b6)
          (some Bool.true)
          (g_impl_yin N (Go.Sa.Device.fLine x) (0 : Int) (6 : Int) fun b7 =>
            (cond (!b7)
            (some Bool.true)
            (cond (decide ((n3 > (0 : Int))))
              (cond ((decide (((0 : Int) ≤ (Go.IntKind.wrap Go.IntKind.i64 (n3 - (1 : Int)))))) && (decide (((Go.IntKind.wrap Go.IntKind.i64 (n3 - (1 : Int))) < (((List.length l1) : Nat) : Int)))))
                (elemK l1 (Int.toNat (Go.IntKind.wrap Go.IntKind.i64 (n3 - (1 : Int)))) fun x1 =>
                  (some (decide (((Go.Sa.Device.fPort x1) ≥ (Go.Sa.Device.fPort x))))))
                none)
              (some Bool.false)))))))) fun j1 =>
      (cond j1
      kR
      (ag (Go.IntKind.wrap Go.IntKind.i64 (n3 + (1 : Int)))))))
    none)
  kN)
def ga_s_impl_BoardFault_w_0 (N : Nat) (G_impl_yin : ∀ {R : Type} (n : Int) (n1 : Int) (n2 : Int) (k : Bool → Option R), Option R) {R : Type} (b3 : Bool) (n2 : Int) (l1 : List Go.Sa.Device) (n4 : Int) (n5 : Int) (b4 : Bool) (n3 : Int) (ag : Int → Option R)  (kR : Option R) (kN : Option R) : Option R :=
  (cond (decide ((n3 < n2)))
  (cond ((decide (((0 : Int) ≤ n3))) && (decide ((n3 < (((List.length l1) : Nat) : Int)))))
    (elemK l1 (Int.toNat n3) fun x =>
      (oK (G_impl_yin (Go.Sa.Device.fKind x) (1 : Int) (255 : Int) fun b5 =>
        (cond (!b5)
        (some Bool.true)
        (G_impl_yin (Go.Sa.Device.fPort x) (0 : Int) (2047 : Int) fun b6 =>
          (cond (!b6)
          (some Bool.true)
          (G_impl_yin (Go.Sa.Device.fLine x) (0 : Int) (6 : Int) fun b7 =>
            (cond (!b7)
            (some Bool.true)
            (cond (decide ((n3 > (0 : Int))))
              (cond ((decide (((0 : Int) ≤ (Go.IntKind.wrap Go.IntKind.i64 (n3 - (1 : Int)))))) && (decide (((Go.IntKind.wrap Go.IntKind.i64 (n3 - (1 : Int))) < (((List.length l1) : Nat) : Int)))))
                (elemK l1 (Int.toNat (Go.IntKind.wrap Go.IntKind.i64 (n3 - (1 : Int)))) fun x1 =>
                  (some (decide (((Go.Sa.Device.fPort x1) ≥ (Go.Sa.Device.fPort x))))))
                none)
              (some Bool.false)))))))) fun j1 =>
      (cond j1
      kR
      (ag (Go.IntKind.wrap Go.IntKind.i64 (n3 + (1 : Int)))))))
    none)
  kN)
def l_impl_BoardFault_w_0 (N : Nat) {R : Type} (b3 : Bool) (n2 : Int) (l1 : List Go.Sa.Device) (n4 : Int) (n5 : Int) (b4 : Bool) (kR : Option R) (kN : Option R) : Nat → Int → Option R
  | 0, _ => none
  | f + 1, n3 => s_impl_BoardFault_w_0 N b3 n2 l1 n4 n5 b4 n3 (fun n3 => l_impl_BoardFault_w_0 N b3 n2 l1 n4 n5 b4 kR kN f n3)  kR kN
def c_impl_BoardFault_w_0 (N : Nat) {R : Type} (b3 : Bool) (n2 : Int) (l1 : List Go.Sa.Device) (n4 : Int) (n5 : Int) (b4 : Bool) (n3 : Int) (kR : Option R) (kN : Option R) : Option R := l_impl_BoardFault_w_0 N b3 n2 l1 n4 n5 b4 kR kN N n3
theorem ea_se_impl_BoardFault_w_0 (N : Nat) (G_impl_yin : ∀ {R : Type} (n : Int) (n1 : Int) (n2 : Int) (k : Bool → Option R), Option R) {R : Type} (b3 : Bool) (n2 : Int) (l1 : List Go.Sa.Device) (n4 : Int) (n5 : Int) (b4 : Bool) (n3 : Int) (AG : List (Option AV) → Hp E → Option R) (KL : Ex → List (Option AV) → Hp E → Option R) :
    iterStep (E := E) (OA_impl_BoardFault_w N G_impl_yin) (fun {R} => LI (noIt) 1 62 sl_impl_BoardFault_w (R := R)) J_impl_BoardFault_w 1 62 0 [1, 22, 23, 24] [2] (body Go.Proofs.Try.f112 0) AG KL [(Option.some (Go.Eng.AV.sc (Go.Eng.SV.ptr 1 0 0))), (Option.some (Go.Eng.AV.sc (Go.Eng.SV.slc 0 Option.none b3))), (Option.some (Go.Eng.AV.sc (Go.Eng.SV.int Go.IntKind.i64 n2))), (Option.some (Go.Eng.AV.sc (Go.Eng.SV.int Go.IntKind.i64 n3)))] [(Option.some (Go.Eng.HE.mk Bool.false (Go.Eng.HB.rows (Go.Sa.B.iDevice l1)))), (Option.some (Go.Eng.HE.mk Bool.false (Go.Eng.HB.exp Option.none [(Go.Eng.SV.int Go.IntKind.i64 n4), (Go.Eng.SV.int Go.IntKind.i64 n5), (Go.Eng.SV.slc 0 Option.none b4)])))] =
      ga_s_impl_BoardFault_w_0 N G_impl_yin b3 n2 l1 n4 n5 b4 n3 (fun n3 => AG [(Option.some (Go.Eng.AV.sc (Go.Eng.SV.ptr 1 0 0))), (Option.some (Go.Eng.AV.sc (Go.Eng.SV.slc 0 Option.none b3))), (Option.some (Go.Eng.AV.sc (Go.Eng.SV.int Go.IntKind.i64 n2))), (Option.some (Go.Eng.AV.sc (Go.Eng.SV.int Go.IntKind.i64 n3)))] [(Option.some (Go.Eng.HE.mk Bool.false (Go.Eng.HB.rows (Go.Sa.B.iDevice l1)))), (Option.some (Go.Eng.HE.mk Bool.false (Go.Eng.HB.exp Option.none [(Go.Eng.SV.int Go.IntKind.i64 n4), (Go.Eng.SV.int Go.IntKind.i64 n5), (Go.Eng.SV.slc 0 Option.none b4)])))])  (KL Go.Eng.Ex.ret [(Option.some (Go.Eng.AV.sc (Go.Eng.SV.int Go.IntKind.i64 (1 : Int))))] [(Option.some (Go.Eng.HE.mk Bool.false (Go.Eng.HB.rows (Go.Sa.B.iDevice l1))))]) (KL Go.Eng.Ex.normal [Option.none] [(Option.some (Go.Eng.HE.mk Bool.false (Go.Eng.HB.rows (Go.Sa.B.iDevice l1))))]) := by kernel_rfl
theorem se_impl_BoardFault_w_0 (N : Nat) {R : Type} (b3 : Bool) (n2 : Int) (l1 : List Go.Sa.Device) (n4 : Int) (n5 : Int) (b4 : Bool) (n3 : Int) (AG : List (Option AV) → Hp E → Option R) (KL : Ex → List (Option AV) → Hp E → Option R) :
    iterStep (E := E) (O_impl_BoardFault_w N) (fun {R} => LI (noIt) 1 62 sl_impl_BoardFault_w (R := R)) J_impl_BoardFault_w 1 62 0 [1, 22, 23, 24] [2] (body Go.Proofs.Try.f112 0) AG KL [(Option.some (Go.Eng.AV.sc (Go.Eng.SV.ptr 1 0 0))), (Option.some (Go.Eng.AV.sc (Go.Eng.SV.slc 0 Option.none b3))), (Option.some (Go.Eng.AV.sc (Go.Eng.SV.int Go.IntKind.i64 n2))), (Option.some (Go.Eng.AV.sc (Go.Eng.SV.int Go.IntKind.i64 n3)))] [(Option.some (Go.Eng.HE.mk Bool.false (Go.Eng.HB.rows (Go.Sa.B.iDevice l1)))), (Option.some (Go.Eng.HE.mk Bool.false (Go.Eng.HB.exp Option.none [(Go.Eng.SV.int Go.IntKind.i64 n4), (Go.Eng.SV.int Go.IntKind.i64 n5), (Go.Eng.SV.slc 0 Option.none b4)])))] =
      s_impl_BoardFault_w_0 N b3 n2 l1 n4 n5 b4 n3 (fun n3 => AG [(Option.some (Go.Eng.AV.sc (Go.Eng.SV.ptr 1 0 0))), (Option.some (Go.Eng.AV.sc (Go.Eng.SV.slc 0 Option.none b3))), (Option.some (Go.Eng.AV.sc (Go.Eng.SV.int Go.IntKind.i64 n2))), (Option.some (Go.Eng.AV.sc (Go.Eng.SV.int Go.IntKind.i64 n3)))] [(Option.some (Go.Eng.HE.mk Bool.false (Go.Eng.HB.rows (Go.Sa.B.iDevice l1)))), (Option.some (Go.Eng.HE.mk Bool.false (Go.Eng.HB.exp Option.none [(Go.Eng.SV.int Go.IntKind.i64 n4), (Go.Eng.SV.int Go.IntKind.i64 n5), (Go.Eng.SV.slc 0 Option.none b4)])))])  (KL Go.Eng.Ex.ret [(Option.some (Go.Eng.AV.sc (Go.Eng.SV.int Go.IntKind.i64 (1 : Int))))] [(Option.some (Go.Eng.HE.mk Bool.false (Go.Eng.HB.rows (Go.Sa.B.iDevice l1))))]) (KL Go.Eng.Ex.normal [Option.none] [(Option.some (Go.Eng.HE.mk Bool.false (Go.Eng.HB.rows (Go.Sa.B.iDevice l1))))]) := castPr (by kernel_rfl) (ea_se_impl_BoardFault_w_0 N (g_impl_yin N) b3 n2 l1 n4 n5 b4 n3 AG KL)
theorem le_impl_BoardFault_w_0 (N : Nat) {R : Type} (b3 : Bool) (n2 : Int) (l1 : List Go.Sa.Device) (n4 : Int) (n5 : Int) (b4 : Bool) (KL : Ex → List (Option AV) → Hp E → Option R) : ∀ (f : Nat), ∀ (n3 : Int), iterK (E := E) (O_impl_BoardFault_w N) (fun {R} => LI (noIt) 1 62 sl_impl_BoardFault_w (R := R)) J_impl_BoardFault_w 1 62 0 [1, 22, 23, 24] [2] (body Go.Proofs.Try.f112 0) f [(Option.some (Go.Eng.AV.sc (Go.Eng.SV.ptr 1 0 0))), (Option.some (Go.Eng.AV.sc (Go.Eng.SV.slc 0 Option.none b3))), (Option.some (Go.Eng.AV.sc (Go.Eng.SV.int Go.IntKind.i64 n2))), (Option.some (Go.Eng.AV.sc (Go.Eng.SV.int Go.IntKind.i64 n3)))] [(Option.some (Go.Eng.HE.mk Bool.false (Go.Eng.HB.rows (Go.Sa.B.iDevice l1)))), (Option.some (Go.Eng.HE.mk Bool.false (Go.Eng.HB.exp Option.none [(Go.Eng.SV.int Go.IntKind.i64 n4), (Go.Eng.SV.int Go.IntKind.i64 n5), (Go.Eng.SV.slc 0 Option.none b4)])))] KL = l_impl_BoardFault_w_0 N b3 n2 l1 n4 n5 b4 (KL Go.Eng.Ex.ret [(Option.some (Go.Eng.AV.sc (Go.Eng.SV.int Go.IntKind.i64 (1 : Int))))] [(Option.some (Go.Eng.HE.mk Bool.false (Go.Eng.HB.rows (Go.Sa.B.iDevice l1))))]) (KL Go.Eng.Ex.normal [Option.none] [(Option.some (Go.Eng.HE.mk Bool.false (Go.Eng.HB.rows (Go.Sa.B.iDevice l1))))]) f n3 := by
  intro f
  induction f with
  | zero => intros; rfl
  | succ f ih =>
    intro n3
    rw [iterK_succ, se_impl_BoardFault_w_0]
    exact (congrArg (fun z0 => s_impl_BoardFault_w_0 N b3 n2 l1 n4 n5 b4 n3 z0 (KL Go.Eng.Ex.ret [(Option.some (Go.Eng.AV.sc (Go.Eng.SV.int Go.IntKind.i64 (1 : Int))))] [(Option.some (Go.Eng.HE.mk Bool.false (Go.Eng.HB.rows (Go.Sa.B.iDevice l1))))]) (KL Go.Eng.Ex.normal [Option.none] [(Option.some (Go.Eng.HE.mk Bool.false (Go.Eng.HB.rows (Go.Sa.B.iDevice l1))))])) (funext fun n3 => ih n3))
def i_impl_BoardFault_w_0 (N : Nat) {R : Type} (vs : List (Option AV)) (H : Hp E) (KL : Ex → List (Option AV) → Hp E → Option R) : Option R :=
  match vs, H with
  | [(Option.some (Go.Eng.AV.sc (Go.Eng.SV.ptr 1 0 0))), (Option.some (Go.Eng.AV.sc (Go.Eng.SV.slc 0 Option.none b3))), (Option.some (Go.Eng.AV.sc (Go.Eng.SV.int Go.IntKind.i64 n2))), (Option.some (Go.Eng.AV.sc (Go.Eng.SV.int Go.IntKind.i64 n3)))], [(Option.some (Go.Eng.HE.mk Bool.false (Go.Eng.HB.rows (Go.Sa.B.iDevice l1)))), (Option.some (Go.Eng.HE.mk Bool.false (Go.Eng.HB.exp Option.none [(Go.Eng.SV.int Go.IntKind.i64 n4), (Go.Eng.SV.int Go.IntKind.i64 n5), (Go.Eng.SV.slc 0 Option.none b4)])))] => c_impl_BoardFault_w_0 N b3 n2 l1 n4 n5 b4 n3 (KL Go.Eng.Ex.ret [(Option.some (Go.Eng.AV.sc (Go.Eng.SV.int Go.IntKind.i64 (1 : Int))))] [(Option.some (Go.Eng.HE.mk Bool.false (Go.Eng.HB.rows (Go.Sa.B.iDevice l1))))]) (KL Go.Eng.Ex.normal [Option.none] [(Option.some (Go.Eng.HE.mk Bool.false (Go.Eng.HB.rows (Go.Sa.B.iDevice l1))))])
  | _, _ => none
noncomputable def IT_impl_BoardFault_w_0 (N : Nat) : Its E := addIt 0 (i_impl_BoardFault_w_0 N) (noIt)
theorem IT_impl_BoardFault_w_0_ok (N : Nat) : ItOk (IT_impl_BoardFault_w_0 N) 1 62 sl_impl_BoardFault_w (lsB Go.Proofs.Try.f112 [0]) :=
  addItB_ok (inner := []) ok (O_impl_BoardFault_w_ok N) (jn_ok _ _ _) (noIt_ok) rfl (by kernel_rfl) rfl fun vs H KL r h => by
    unfold i_impl_BoardFault_w_0 at h
    split at h
    · exact ⟨_, (le_impl_BoardFault_w_0 N _ _ _ _ _ _ KL N _).trans h⟩
    · cases h
def g_impl_BoardFault_w (N : Nat) {R : Type} (n : Int) (n1 : Int) (b : Bool) (l : List Go.Sa.Device) (k : Int → Option R) : Option R :=
  (oK (g_impl_yin N n (2 : Int) (256 : Int) fun b1 =>
    (cond (!b1)
    (some Bool.true)
    (g_impl_yin N n1 (1 : Int) (8 : Int) fun b2 =>
      (cond (!b2)
      (some Bool.true)
      (some (decide (((((List.length l) : Nat) : Int) > (16 : Int))))))))) fun j =>
  (cond j
  (k (1 : Int))
  (c_impl_BoardFault_w_0 N b (((List.length l) : Nat) : Int) l n n1 b (0 : Int) (
    (k (1 : Int))) (
    (k (0 : Int))))))
def ga_g_impl_BoardFault_w (N : Nat) (G_impl_yin : ∀ {R : Type} (n : Int) (n1 : Int) (n2 : Int) (k : Bool → Option R), Option R) {R : Type} (n : Int) (n1 : Int) (b : Bool) (l : List Go.Sa.Device) (k : Int → Option R) : Option R :=
  (oK (G_impl_yin n (2 : Int) (256 : Int) fun b1 =>
    (cond (!b1)
    (some Bool.true)
    (G_impl_yin n1 (1 : Int) (8 : Int) fun b2 =>
      (cond (!b2)
      (some Bool.true)
      (some (decide (((((List.length l) : Nat) : Int) > (16 : Int))))))))) fun j =>
  (cond j
  (k (1 : Int))
  (c_impl_BoardFault_w_0 N b (((List.length l) : Nat) : Int) l n n1 b (0 : Int) (
    (k (1 : Int))) (
    (k (0 : Int))))))
theorem ea_e_impl_BoardFault_w (N : Nat) (G_impl_yin : ∀ {R : Type} (n : Int) (n1 : Int) (n2 : Int) (k : Bool → Option R), Option R) {R : Type} (n : Int) (n1 : Int) (b : Bool) (l : List Go.Sa.Device) (K : AV → Hp E → Option R) :
    runFnI (E := E) (OA_impl_BoardFault_w N G_impl_yin) (IT_impl_BoardFault_w_0 N) sl_impl_BoardFault_w J_impl_BoardFault_w Go.Proofs.Try.f112 [(Go.Eng.AV.agg [(Go.Eng.SV.int Go.IntKind.i64 n), (Go.Eng.SV.int Go.IntKind.i64 n1), (Go.Eng.SV.slc 0 Option.none b)])] [(Option.some (Go.Eng.HE.mk Bool.false (Go.Eng.HB.rows (Go.Sa.B.iDevice l))))] K =
      ga_g_impl_BoardFault_w N G_impl_yin n n1 b l (fun n6 => K (Go.Eng.AV.sc (Go.Eng.SV.int Go.IntKind.i64 n6)) [(Option.some (Go.Eng.HE.mk Bool.false (Go.Eng.HB.rows (Go.Sa.B.iDevice l))))]) := by kernel_rfl
theorem e_impl_BoardFault_w (N : Nat) {R : Type} (n : Int) (n1 : Int) (b : Bool) (l : List Go.Sa.Device) (K : AV → Hp E → Option R) :
    runFnI (E := E) (O_impl_BoardFault_w N) (IT_impl_BoardFault_w_0 N) sl_impl_BoardFault_w J_impl_BoardFault_w Go.Proofs.Try.f112 [(Go.Eng.AV.agg [(Go.Eng.SV.int Go.IntKind.i64 n), (Go.Eng.SV.int Go.IntKind.i64 n1), (Go.Eng.SV.slc 0 Option.none b)])] [(Option.some (Go.Eng.HE.mk Bool.false (Go.Eng.HB.rows (Go.Sa.B.iDevice l))))] K =
      g_impl_BoardFault_w N n n1 b l (fun n6 => K (Go.Eng.AV.sc (Go.Eng.SV.int Go.IntKind.i64 n6)) [(Option.some (Go.Eng.HE.mk Bool.false (Go.Eng.HB.rows (Go.Sa.B.iDevice l))))]) := castPr (by kernel_rfl) (ea_e_impl_BoardFault_w N (g_impl_yin N) n n1 b l K)
def o_impl_BoardFault_w (N : Nat) {R : Type} (args : List AV) (H : Hp E) (K : AV → Hp E → Option R) : Option R :=
  match args, H with
  | [(Go.Eng.AV.agg [(Go.Eng.SV.int Go.IntKind.i64 n), (Go.Eng.SV.int Go.IntKind.i64 n1), (Go.Eng.SV.slc 0 Option.none b)])], [(Option.some (Go.Eng.HE.mk Bool.false (Go.Eng.HB.rows (Go.Sa.B.iDevice l))))] => g_impl_BoardFault_w N n n1 b l (fun n6 => K (Go.Eng.AV.sc (Go.Eng.SV.int Go.IntKind.i64 n6)) [(Option.some (Go.Eng.HE.mk Bool.false (Go.Eng.HB.rows (Go.Sa.B.iDevice l))))])
  | _, _ => none
theorem o_impl_BoardFault_w_ok (N : Nat) : FnOk E 112 (o_impl_BoardFault_w N) := by
  intro R args H K r h
  unfold o_impl_BoardFault_w at h
  dsimp only at h
  split at h
  · exact fnB_ok (ids := [0]) (top := [0]) ok (O_impl_BoardFault_w_ok N) (jn_ok _ _ _) Go.Proofs.Try.func112 (by kernel_rfl) (IT := IT_impl_BoardFault_w_0 N) (sl := sl_impl_BoardFault_w) (J := J_impl_BoardFault_w) (K := K) (H := [(Option.some (Go.Eng.HE.mk Bool.false (Go.Eng.HB.rows (Go.Sa.B.iDevice _))))]) (IT_impl_BoardFault_w_0_ok N) (by kernel_rfl) rfl ((e_impl_BoardFault_w N _ _ _ _ K).trans h)
  · cases h
end Go.Sa
