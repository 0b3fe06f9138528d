import Derived.Test.YtflmjaehnbnjnaaSpec
import Derived.Test.YtflmjaehnbnjnaaPLb
import Derived.Test.YtflmjaehnbnjnaaW4
set_option linter.all false
namespace Go.Sa
open Go Go.Eng Go.Proofs
set_option maxRecDepth 100000
set_option maxHeartbeats 4000000
/-! ### loop.example/g00038/spec.DrawWalk -/
abbrev sl_spec_DrawWalk_r : SlotT := []
abbrev J_spec_DrawWalk_r : JT := jn [] [(23, [(9, .s)])] []
noncomputable def O_spec_DrawWalk_r (N : Nat) : Orc E := addFn 29 (o_spec_l01Src_va_Wr N) (addFn 28 (o_spec_l01Src_tables_Wr N) (addFn 27 (o_spec_l01Src_n_Wr N) (addFn 26 (o_spec_l01Src_one_Wr N) (addFn 25 (o_spec_l01Source_r N) (noFn)))))
noncomputable def pa_spec_DrawWalk_r__o_spec_l01Src_va_Wr (N : Nat) (G_spec_l01Src_va_Wr : ∀ {R : Type} (b : Bool) (n : Int) (n1 : Int) (n2 : Int) (l : List Int) (k : Int → Int → Int → Option R), Option R) {R : Type} (args : List AV) (H : Hp E) (K : AV → Hp E → Option R) : Option R :=
 match args, H with
 | [(AV.sc (SV.ptr 0 0 0))], [(some (HE.mk false (HB.exp none [(SV.slc 1 none b), (SV.int IntKind.i64 n), (SV.int IntKind.u64 n1), (SV.int IntKind.i64 n2)]))), (some (HE.mk true (HB.rows (B.u8 l))))] => G_spec_l01Src_va_Wr b n n1 n2 l (fun n14 n15 n16 => K (AV.sc (SV.int IntKind.i64 n14)) [(some (HE.mk false (HB.exp none [(SV.slc 1 none b), (SV.int IntKind.i64 n15), (SV.int IntKind.u64 n16), (SV.int IntKind.i64 n2)]))), (some (HE.mk true (HB.rows (B.u8 l))))])
 | _, _ => none
noncomputable def pa_spec_DrawWalk_r__o_spec_l01Src_tables_Wr (N : Nat) (G_spec_l01Src_tables_Wr : ∀ {R : Type} (b : Bool) (n : Int) (n1 : Int) (n2 : Int) (l : List Int) (k : ByteArray → Bool → Int → Int → Int → (List Int) → Option R), Option R) {R : Type} (args : List AV) (H : Hp E) (K : AV → Hp E → Option R) : Option R :=
 match args, H with
 | [(AV.sc (SV.ptr 0 0 0))], [(some (HE.mk false (HB.exp none [(SV.slc 1 none b), (SV.int IntKind.i64 n), (SV.int IntKind.u64 n1), (SV.int IntKind.i64 n2)]))), (some (HE.mk true (HB.rows (B.u8 l))))] => G_spec_l01Src_tables_Wr b n n1 n2 l (fun s15 b17 n71 n72 n73 l19 => K (AV.sc (SV.str s15)) [(some (HE.mk false (HB.exp none [(SV.slc 1 none b17), (SV.int IntKind.i64 n71), (SV.int IntKind.u64 n72), (SV.int IntKind.i64 n73)]))), (some (HE.mk true (HB.rows (B.u8 l19))))])
 | _, _ => none
noncomputable def pa_spec_DrawWalk_r__o_spec_l01Src_n_Wr (N : Nat) (G_spec_l01Src_n_Wr : ∀ {R : Type} (n : Int) (b : Bool) (n1 : Int) (n2 : Int) (n3 : Int) (l : List Int) (k : Int → Int → Int → Option R), Option R) {R : Type} (args : List AV) (H : Hp E) (K : AV → Hp E → Option R) : Option R :=
 match args, H with
 | [(AV.sc (SV.ptr 0 0 0)), (AV.sc (SV.int IntKind.i64 n))], [(some (HE.mk false (HB.exp none [(SV.slc 1 none b), (SV.int IntKind.i64 n1), (SV.int IntKind.u64 n2), (SV.int IntKind.i64 n3)]))), (some (HE.mk true (HB.rows (B.u8 l))))] => G_spec_l01Src_n_Wr n b n1 n2 n3 l (fun n4 n5 n6 => K (AV.sc (SV.int IntKind.i64 n4)) [(some (HE.mk false (HB.exp none [(SV.slc 1 none b), (SV.int IntKind.i64 n5), (SV.int IntKind.u64 n6), (SV.int IntKind.i64 n3)]))), (some (HE.mk true (HB.rows (B.u8 l))))])
 | _, _ => none
noncomputable def pa_spec_DrawWalk_r__o_spec_l01Src_one_Wr (N : Nat) (G_spec_l01Src_one_Wr : ∀ {R : Type} (n : Int) (b : Bool) (n1 : Int) (n2 : Int) (n3 : Int) (l : List Int) (k : Bool → Int → Int → Option R), Option R) {R : Type} (args : List AV) (H : Hp E) (K : AV → Hp E → Option R) : Option R :=
 match args, H with
 | [(AV.sc (SV.ptr 0 0 0)), (AV.sc (SV.int IntKind.i64 n))], [(some (HE.mk false (HB.exp none [(SV.slc 1 none b), (SV.int IntKind.i64 n1), (SV.int IntKind.u64 n2), (SV.int IntKind.i64 n3)]))), (some (HE.mk true (HB.rows (B.u8 l))))] => G_spec_l01Src_one_Wr n b n1 n2 n3 l (fun b1 n7 n8 => K (AV.sc (SV.bool b1)) [(some (HE.mk false (HB.exp none [(SV.slc 1 none b), (SV.int IntKind.i64 n7), (SV.int IntKind.u64 n8), (SV.int IntKind.i64 n3)]))), (some (HE.mk true (HB.rows (B.u8 l))))])
 | _, _ => none
noncomputable def pa_spec_DrawWalk_r__o_spec_l01Source_r (N : Nat) (G_spec_l01Source_r : ∀ {R : Type} (b : Bool) (l : List Int) (k : Int → Int → Option R), Option R) {R : Type} (args : List AV) (H : Hp E) (K : AV → Hp E → Option R) : Option R :=
 match args, H with
 | [(AV.sc (SV.slc 0 none b))], [(some (HE.mk true (HB.rows (B.u8 l))))] => G_spec_l01Source_r b l (fun n5 n6 => K (AV.sc (SV.ptr 1 0 0)) [(some (HE.mk true (HB.rows (B.u8 l)))), (some (HE.mk false (HB.exp none [(SV.slc 0 none b), (SV.int IntKind.i64 (0 : Int)), (SV.int IntKind.u64 n5), (SV.int IntKind.i64 n6)])))])
 | _, _ => none
noncomputable def OA_spec_DrawWalk_r (N : Nat) (G_spec_l01Src_va_Wr : ∀ {R : Type} (b : Bool) (n : Int) (n1 : Int) (n2 : Int) (l : List Int) (k : Int → Int → Int → Option R), Option R) (G_spec_l01Src_tables_Wr : ∀ {R : Type} (b : Bool) (n : Int) (n1 : Int) (n2 : Int) (l : List Int) (k : ByteArray → Bool → Int → Int → Int → (List Int) → Option R), Option R) (G_spec_l01Src_n_Wr : ∀ {R : Type} (n : Int) (b : Bool) (n1 : Int) (n2 : Int) (n3 : Int) (l : List Int) (k : Int → Int → Int → Option R), Option R) (G_spec_l01Src_one_Wr : ∀ {R : Type} (n : Int) (b : Bool) (n1 : Int) (n2 : Int) (n3 : Int) (l : List Int) (k : Bool → Int → Int → Option R), Option R) (G_spec_l01Source_r : ∀ {R : Type} (b : Bool) (l : List Int) (k : Int → Int → Option R), Option R) : Orc E := addFn 29 (pa_spec_DrawWalk_r__o_spec_l01Src_va_Wr N G_spec_l01Src_va_Wr) (addFn 28 (pa_spec_DrawWalk_r__o_spec_l01Src_tables_Wr N G_spec_l01Src_tables_Wr) (addFn 27 (pa_spec_DrawWalk_r__o_spec_l01Src_n_Wr N G_spec_l01Src_n_Wr) (addFn 26 (pa_spec_DrawWalk_r__o_spec_l01Src_one_Wr N G_spec_l01Src_one_Wr) (addFn 25 (pa_spec_DrawWalk_r__o_spec_l01Source_r N G_spec_l01Source_r) (noFn)))))
theorem O_spec_DrawWalk_r_ok (N : Nat) : OrcOk (O_spec_DrawWalk_r N) := addFn_ok (o_spec_l01Src_va_Wr_ok N) (addFn_ok (o_spec_l01Src_tables_Wr_ok N) (addFn_ok (o_spec_l01Src_n_Wr_ok N) (addFn_ok (o_spec_l01Src_one_Wr_ok N) (addFn_ok (o_spec_l01Source_r_ok N) (noFn_ok)))))
noncomputable def g_spec_DrawWalk_r (N : Nat) {R : Type} (b : Bool) (l : List Int) (k : ByteArray → Int → Int → Int → Bool → Option R) : Option R :=
 (g_spec_l01Source_r N b l fun n n1 =>
 (g_spec_l01Src_one_Wr N (12 : Int) b (0 : Int) n n1 l fun b1 n2 n3 =>
 (cond b1
 (g_spec_l01Src_n_Wr N (5 : Int) b n2 n3 n1 l fun n4 n5 n6 =>
 (cond ((decide (((0 : Int) ≤ n4))) && (decide ((n4 < (5 : Int)))))
 (elemK [(0 : Int), (255 : Int), (-(1 : Int)), (256 : Int), (7 : Int)] (Int.toNat n4) fun x =>
 (g_spec_l01Src_tables_Wr N b n5 n6 n1 l fun s b2 n7 n8 n9 l1 =>
 (g_spec_l01Src_one_Wr N (40 : Int) b2 n7 n8 n9 l fun b3 n10 n11 =>
 (oK (cond b3
 (cond ((decide (((1 : Int) ≤ (((ByteArray.size s) : Nat) : Int)))) && (decide (((((ByteArray.size s) : Nat) : Int) ≤ (((ByteArray.size s) : Nat) : Int)))))
 (some (ByteArray.extract s 1 (Int.toNat (((ByteArray.size s) : Nat) : Int))))
 none)
 (some s)) fun j =>
 (g_spec_l01Src_n_Wr N (3 : Int) b2 n10 n11 n9 l fun n12 n13 n14 =>
 (g_spec_l01Src_one_Wr N (40 : Int) b2 n13 n14 n9 l fun b4 n15 n16 =>
 (cond b4
 (g_spec_l01Src_n_Wr N (2 : Int) b2 n15 n16 n9 l fun n17 n18 n19 =>
 (cond ((decide (((0 : Int) ≤ n17))) && (decide ((n17 < (2 : Int)))))
 (elemK [(0 : Int), (4 : Int)] (Int.toNat n17) fun x1 =>
 (g_spec_l01Src_va_Wr N b2 n18 n19 n9 l fun n20 n21 n22 =>
 (g_spec_l01Src_one_Wr N (2 : Int) b2 n21 n22 n9 l fun b5 n23 n24 =>
 (k j x n20 x1 b5))))
 none))
 (g_spec_l01Src_va_Wr N b2 n15 n16 n9 l fun n25 n26 n27 =>
 (g_spec_l01Src_one_Wr N (2 : Int) b2 n26 n27 n9 l fun b6 n28 n29 =>
 (k j x n25 (IntKind.wrap IntKind.i64 ((1 : Int) + n12)) b6))))))))))
 none))
 (g_spec_l01Src_tables_Wr N b n2 n3 n1 l fun s1 b7 n30 n31 n32 l2 =>
 (g_spec_l01Src_one_Wr N (40 : Int) b7 n30 n31 n32 l fun b8 n33 n34 =>
 (oK (cond b8
 (cond ((decide (((1 : Int) ≤ (((ByteArray.size s1) : Nat) : Int)))) && (decide (((((ByteArray.size s1) : Nat) : Int) ≤ (((ByteArray.size s1) : Nat) : Int)))))
 (some (ByteArray.extract s1 1 (Int.toNat (((ByteArray.size s1) : Nat) : Int))))
 none)
 (some s1)) fun j1 =>
 (g_spec_l01Src_n_Wr N (3 : Int) b7 n33 n34 n32 l fun n35 n36 n37 =>
 (g_spec_l01Src_one_Wr N (40 : Int) b7 n36 n37 n32 l fun b9 n38 n39 =>
 (cond b9
 (g_spec_l01Src_n_Wr N (2 : Int) b7 n38 n39 n32 l fun n40 n41 n42 =>
 (cond ((decide (((0 : Int) ≤ n40))) && (decide ((n40 < (2 : Int)))))
 (elemK [(0 : Int), (4 : Int)] (Int.toNat n40) fun x2 =>
 (g_spec_l01Src_va_Wr N b7 n41 n42 n32 l fun n43 n44 n45 =>
 (g_spec_l01Src_one_Wr N (2 : Int) b7 n44 n45 n32 l fun b10 n46 n47 =>
 (k j1 (1 : Int) n43 x2 b10))))
 none))
 (g_spec_l01Src_va_Wr N b7 n38 n39 n32 l fun n48 n49 n50 =>
 (g_spec_l01Src_one_Wr N (2 : Int) b7 n49 n50 n32 l fun b11 n51 n52 =>
 (k j1 (1 : Int) n48 (IntKind.wrap IntKind.i64 ((1 : Int) + n35)) b11))))))))))))
noncomputable def ga_g_spec_DrawWalk_r (N : Nat) (G_spec_l01Src_va_Wr : ∀ {R : Type} (b : Bool) (n : Int) (n1 : Int) (n2 : Int) (l : List Int) (k : Int → Int → Int → Option R), Option R) (G_spec_l01Src_tables_Wr : ∀ {R : Type} (b : Bool) (n : Int) (n1 : Int) (n2 : Int) (l : List Int) (k : ByteArray → Bool → Int → Int → Int → (List Int) → Option R), Option R) (G_spec_l01Src_n_Wr : ∀ {R : Type} (n : Int) (b : Bool) (n1 : Int) (n2 : Int) (n3 : Int) (l : List Int) (k : Int → Int → Int → Option R), Option R) (G_spec_l01Src_one_Wr : ∀ {R : Type} (n : Int) (b : Bool) (n1 : Int) (n2 : Int) (n3 : Int) (l : List Int) (k : Bool → Int → Int → Option R), Option R) (G_spec_l01Source_r : ∀ {R : Type} (b : Bool) (l : List Int) (k : Int → Int → Option R), Option R) {R : Type} (b : Bool) (l : List Int) (k : ByteArray → Int → Int → Int → Bool → Option R) : Option R :=
 (G_spec_l01Source_r b l fun n n1 =>
 (G_spec_l01Src_one_Wr (12 : Int) b (0 : Int) n n1 l fun b1 n2 n3 =>
 (cond b1
 (G_spec_l01Src_n_Wr (5 : Int) b n2 n3 n1 l fun n4 n5 n6 =>
 (cond ((decide (((0 : Int) ≤ n4))) && (decide ((n4 < (5 : Int)))))
 (elemK [(0 : Int), (255 : Int), (-(1 : Int)), (256 : Int), (7 : Int)] (Int.toNat n4) fun x =>
 (G_spec_l01Src_tables_Wr b n5 n6 n1 l fun s b2 n7 n8 n9 l1 =>
 (G_spec_l01Src_one_Wr (40 : Int) b2 n7 n8 n9 l fun b3 n10 n11 =>
 (oK (cond b3
 (cond ((decide (((1 : Int) ≤ (((ByteArray.size s) : Nat) : Int)))) && (decide (((((ByteArray.size s) : Nat) : Int) ≤ (((ByteArray.size s) : Nat) : Int)))))
 (some (ByteArray.extract s 1 (Int.toNat (((ByteArray.size s) : Nat) : Int))))
 none)
 (some s)) fun j =>
 (G_spec_l01Src_n_Wr (3 : Int) b2 n10 n11 n9 l fun n12 n13 n14 =>
 (G_spec_l01Src_one_Wr (40 : Int) b2 n13 n14 n9 l fun b4 n15 n16 =>
 (cond b4
 (G_spec_l01Src_n_Wr (2 : Int) b2 n15 n16 n9 l fun n17 n18 n19 =>
 (cond ((decide (((0 : Int) ≤ n17))) && (decide ((n17 < (2 : Int)))))
 (elemK [(0 : Int), (4 : Int)] (Int.toNat n17) fun x1 =>
 (G_spec_l01Src_va_Wr b2 n18 n19 n9 l fun n20 n21 n22 =>
 (G_spec_l01Src_one_Wr (2 : Int) b2 n21 n22 n9 l fun b5 n23 n24 =>
 (k j x n20 x1 b5))))
 none))
 (G_spec_l01Src_va_Wr b2 n15 n16 n9 l fun n25 n26 n27 =>
 (G_spec_l01Src_one_Wr (2 : Int) b2 n26 n27 n9 l fun b6 n28 n29 =>
 (k j x n25 (IntKind.wrap IntKind.i64 ((1 : Int) + n12)) b6))))))))))
 none))
 (G_spec_l01Src_tables_Wr b n2 n3 n1 l fun s1 b7 n30 n31 n32 l2 =>
 (G_spec_l01Src_one_Wr (40 : Int) b7 n30 n31 n32 l fun b8 n33 n34 =>
 (oK (cond b8
 (cond ((decide (((1 : Int) ≤ (((ByteArray.size s1) : Nat) : Int)))) && (decide (((((ByteArray.size s1) : Nat) : Int) ≤ (((ByteArray.size s1) : Nat) : Int)))))
 (some (ByteArray.extract s1 1 (Int.toNat (((ByteArray.size s1) : Nat) : Int))))
 none)
 (some s1)) fun j1 =>
 (G_spec_l01Src_n_Wr (3 : Int) b7 n33 n34 n32 l fun n35 n36 n37 =>
 (G_spec_l01Src_one_Wr (40 : Int) b7 n36 n37 n32 l fun b9 n38 n39 =>
 (cond b9
 (G_spec_l01Src_n_Wr (2 : Int) b7 n38 n39 n32 l fun n40 n41 n42 =>
 (cond ((decide (((0 : Int) ≤ n40))) && (decide ((n40 < (2 : Int)))))
 (elemK [(0 : Int), (4 : Int)] (Int.toNat n40) fun x2 =>
 (G_spec_l01Src_va_Wr b7 n41 n42 n32 l fun n43 n44 n45 =>
 (G_spec_l01Src_one_Wr (2 : Int) b7 n44 n45 n32 l fun b10 n46 n47 =>
 (k j1 (1 : Int) n43 x2 b10))))
 none))
 (G_spec_l01Src_va_Wr b7 n38 n39 n32 l fun n48 n49 n50 =>
 (G_spec_l01Src_one_Wr (2 : Int) b7 n49 n50 n32 l fun b11 n51 n52 =>
 (k j1 (1 : Int) n48 (IntKind.wrap IntKind.i64 ((1 : Int) + n35)) b11))))))))))))
theorem ea_e_spec_DrawWalk_r (N : Nat) (G_spec_l01Src_va_Wr : ∀ {R : Type} (b : Bool) (n : Int) (n1 : Int) (n2 : Int) (l : List Int) (k : Int → Int → Int → Option R), Option R) (G_spec_l01Src_tables_Wr : ∀ {R : Type} (b : Bool) (n : Int) (n1 : Int) (n2 : Int) (l : List Int) (k : ByteArray → Bool → Int → Int → Int → (List Int) → Option R), Option R) (G_spec_l01Src_n_Wr : ∀ {R : Type} (n : Int) (b : Bool) (n1 : Int) (n2 : Int) (n3 : Int) (l : List Int) (k : Int → Int → Int → Option R), Option R) (G_spec_l01Src_one_Wr : ∀ {R : Type} (n : Int) (b : Bool) (n1 : Int) (n2 : Int) (n3 : Int) (l : List Int) (k : Bool → Int → Int → Option R), Option R) (G_spec_l01Source_r : ∀ {R : Type} (b : Bool) (l : List Int) (k : Int → Int → Option R), Option R) {R : Type} (b : Bool) (l : List Int) (K : AV → Hp E → Option R) :
    runFnI (E := E) (OA_spec_DrawWalk_r N G_spec_l01Src_va_Wr G_spec_l01Src_tables_Wr G_spec_l01Src_n_Wr G_spec_l01Src_one_Wr G_spec_l01Source_r) (noIt) sl_spec_DrawWalk_r J_spec_DrawWalk_r Try.f7 [(AV.sc (SV.slc 0 none b))] [(some (HE.mk true (HB.rows (B.u8 l))))] K =
      ga_g_spec_DrawWalk_r N G_spec_l01Src_va_Wr G_spec_l01Src_tables_Wr G_spec_l01Src_n_Wr G_spec_l01Src_one_Wr G_spec_l01Source_r b l (fun s2 n53 n54 n55 b12 => K (AV.tup [(false, [(SV.str s2)]), (false, [(SV.int IntKind.i64 n53)]), (false, [(SV.int IntKind.i64 n54)]), (false, [(SV.int IntKind.i64 n55)]), (false, [(SV.bool b12)])]) [(some (HE.mk true (HB.rows (B.u8 l))))]) := by kernel_rfl
theorem e_spec_DrawWalk_r (N : Nat) {R : Type} (b : Bool) (l : List Int) (K : AV → Hp E → Option R) :
    runFnI (E := E) (O_spec_DrawWalk_r N) (noIt) sl_spec_DrawWalk_r J_spec_DrawWalk_r Try.f7 [(AV.sc (SV.slc 0 none b))] [(some (HE.mk true (HB.rows (B.u8 l))))] K =
      g_spec_DrawWalk_r N b l (fun s2 n53 n54 n55 b12 => K (AV.tup [(false, [(SV.str s2)]), (false, [(SV.int IntKind.i64 n53)]), (false, [(SV.int IntKind.i64 n54)]), (false, [(SV.int IntKind.i64 n55)]), (false, [(SV.bool b12)])]) [(some (HE.mk true (HB.rows (B.u8 l))))]) := castPr (by kernel_rfl) (ea_e_spec_DrawWalk_r N (g_spec_l01Src_va_Wr N) (g_spec_l01Src_tables_Wr N) (g_spec_l01Src_n_Wr N) (g_spec_l01Src_one_Wr N) (g_spec_l01Source_r N) b l K)
noncomputable def o_spec_DrawWalk_r (N : Nat) {R : Type} (args : List AV) (H : Hp E) (K : AV → Hp E → Option R) : Option R :=
 match args, H with
 | [(AV.sc (SV.slc 0 none b))], [(some (HE.mk true (HB.rows (B.u8 l))))] => g_spec_DrawWalk_r N b l (fun s2 n53 n54 n55 b12 => K (AV.tup [(false, [(SV.str s2)]), (false, [(SV.int IntKind.i64 n53)]), (false, [(SV.int IntKind.i64 n54)]), (false, [(SV.int IntKind.i64 n55)]), (false, [(SV.bool b12)])]) [(some (HE.mk true (HB.rows (B.u8 l))))])
 | _, _ => none
theorem o_spec_DrawWalk_r_ok (N : Nat) : FnOk E 7 (o_spec_DrawWalk_r N) := by
  intro R args H K r h
  unfold o_spec_DrawWalk_r at h
  dsimp only at h
  split at h
  · exact fnB_ok (ids := []) (top := []) ok (O_spec_DrawWalk_r_ok N) (jn_ok _ _ _) Try.func7 (by kernel_rfl) (IT := noIt) (sl := sl_spec_DrawWalk_r) (J := J_spec_DrawWalk_r) (K := K) (H := [(some (HE.mk true (HB.rows (B.u8 _))))]) (noIt_ok) (by kernel_rfl) rfl ((e_spec_DrawWalk_r N _ _ K).trans h)
  · cases h
/-! ### loop.example/g00038/spec.l03Acc -/
abbrev sl_spec_l03Acc : SlotT := []
abbrev J_spec_l03Acc : JT := jn [(1, [(2, .b)])] [] []
noncomputable def O_spec_l03Acc (N : Nat) : Orc E := noFn
theorem O_spec_l03Acc_ok (N : Nat) : OrcOk (O_spec_l03Acc N) := noFn_ok
noncomputable def g_spec_l03Acc (N : Nat) {R : Type} (n : Int) (k : Bool → Option R) : Option R :=
 (oK (cond (n == (1 : Int))
 (some true)
 (cond (n == (2 : Int))
 (some true)
 (some (n == (3 : Int))))) fun j =>
 (k j))
theorem e_spec_l03Acc (N : Nat) {R : Type} (n : Int) (K : AV → Hp E → Option R) :
    runFnI (E := E) (O_spec_l03Acc N) (noIt) sl_spec_l03Acc J_spec_l03Acc Try.f35 [(AV.sc (SV.int IntKind.i64 n))] [] K =
      g_spec_l03Acc N n (fun b => K (AV.sc (SV.bool b)) []) := by kernel_rfl
noncomputable def o_spec_l03Acc (N : Nat) {R : Type} (args : List AV) (H : Hp E) (K : AV → Hp E → Option R) : Option R :=
 match args, H with
 | [(AV.sc (SV.int IntKind.i64 n))], [] => g_spec_l03Acc N n (fun b => K (AV.sc (SV.bool b)) [])
 | _, _ => none
theorem o_spec_l03Acc_ok (N : Nat) : FnOk E 35 (o_spec_l03Acc N) := by
  intro R args H K r h
  unfold o_spec_l03Acc at h
  dsimp only at h
  split at h
  · exact fnB_ok (ids := []) (top := []) ok (O_spec_l03Acc_ok N) (jn_ok _ _ _) Try.func35 (by kernel_rfl) (IT := noIt) (sl := sl_spec_l03Acc) (J := J_spec_l03Acc) (K := K) (H := []) (noIt_ok) (by kernel_rfl) rfl ((e_spec_l03Acc N _ K).trans h)
  · cases h
/-! ### loop.example/g00038/spec.l03May -/
abbrev sl_spec_l03May : SlotT := []
abbrev J_spec_l03May : JT := jn [(11, [(6, .b)])] [(9, [(7, .i .i64)]), (11, [(7, .i .i64)])] []
noncomputable def O_spec_l03May (N : Nat) : Orc E := noFn
theorem O_spec_l03May_ok (N : Nat) : OrcOk (O_spec_l03May N) := noFn_ok
noncomputable def g_spec_l03May (N : Nat) {R : Type} (n : Int) (n1 : Int) (b : Bool) (k : Bool → Option R) : Option R :=
 (oK (cond (n1 == (2 : Int))
 (some (4 : Int))
 (oK (cond (n1 == (3 : Int))
 (some (8 : Int))
 (some (2 : Int))) fun j =>
 (some j))) fun j1 =>
 (cond ((IntKind.wrap IntKind.i64 (((BitVec.toNat ((BitVec.ofInt 64 n) &&& (BitVec.ofInt 64 j1))) : Nat) : Int)) == (0 : Int))
 (k false)
 (cond b
 (k ((IntKind.wrap IntKind.i64 (((BitVec.toNat ((BitVec.ofInt 64 n) &&& (BitVec.ofInt 64 (16 : Int)))) : Nat) : Int)) != (0 : Int)))
 (oK (cond (n1 != (3 : Int))
 (some true)
 (some ((IntKind.wrap IntKind.i64 (((BitVec.toNat ((BitVec.ofInt 64 n) &&& (BitVec.ofInt 64 (16 : Int)))) : Nat) : Int)) == (0 : Int)))) fun j2 =>
 (k j2)))))
theorem e_spec_l03May (N : Nat) {R : Type} (n : Int) (n1 : Int) (b : Bool) (K : AV → Hp E → Option R) :
    runFnI (E := E) (O_spec_l03May N) (noIt) sl_spec_l03May J_spec_l03May Try.f37 [(AV.sc (SV.int IntKind.i64 n)), (AV.sc (SV.int IntKind.i64 n1)), (AV.sc (SV.bool b))] [] K =
      g_spec_l03May N n n1 b (fun b1 => K (AV.sc (SV.bool b1)) []) := by kernel_rfl
noncomputable def o_spec_l03May (N : Nat) {R : Type} (args : List AV) (H : Hp E) (K : AV → Hp E → Option R) : Option R :=
 match args, H with
 | [(AV.sc (SV.int IntKind.i64 n)), (AV.sc (SV.int IntKind.i64 n1)), (AV.sc (SV.bool b))], [] => g_spec_l03May N n n1 b (fun b1 => K (AV.sc (SV.bool b1)) [])
 | _, _ => none
theorem o_spec_l03May_ok (N : Nat) : FnOk E 37 (o_spec_l03May N) := by
  intro R args H K r h
  unfold o_spec_l03May at h
  dsimp only at h
  split at h
  · exact fnB_ok (ids := []) (top := []) ok (O_spec_l03May_ok N) (jn_ok _ _ _) Try.func37 (by kernel_rfl) (IT := noIt) (sl := sl_spec_l03May) (J := J_spec_l03May) (K := K) (H := []) (noIt_ok) (by kernel_rfl) rfl ((e_spec_l03May N _ _ _ K).trans h)
  · cases h
/-! ### loop.example/g00038/spec.Walk -/
abbrev sl_spec_Walk : SlotT := []
abbrev J_spec_Walk : JT := jn [(1, [(41, .b)]), (11, [(74, .b)]), (21, [(127, .b)])] [(130, [(17, .i .i64)]), (147, [(13, .i .i64)])] []
noncomputable def O_spec_Walk (N : Nat) : Orc E := addFn 38 (o_spec_SetWord N) (addFn 37 (o_spec_l03May N) (addFn 36 (o_spec_l03Entry N) (addFn 35 (o_spec_l03Acc N) (addFn 10 (o_spec_MemFault N) (noFn)))))
noncomputable def pa_spec_Walk__o_spec_SetWord (N : Nat) (G_spec_SetWord : ∀ {R : Type} (s : ByteArray) (n : Int) (n1 : Int) (k : ByteArray → Option R), Option R) {R : Type} (args : List AV) (H : Hp E) (K : AV → Hp E → Option R) : Option R :=
 match args, H with
 | [(AV.sc (SV.str s)), (AV.sc (SV.int IntKind.i64 n)), (AV.sc (SV.int IntKind.i64 n1))], [] => G_spec_SetWord s n n1 (fun s2 => K (AV.sc (SV.str s2)) [])
 | _, _ => none
noncomputable def pa_spec_Walk__o_spec_l03May (N : Nat) (G_spec_l03May : ∀ {R : Type} (n : Int) (n1 : Int) (b : Bool) (k : Bool → Option R), Option R) {R : Type} (args : List AV) (H : Hp E) (K : AV → Hp E → Option R) : Option R :=
 match args, H with
 | [(AV.sc (SV.int IntKind.i64 n)), (AV.sc (SV.int IntKind.i64 n1)), (AV.sc (SV.bool b))], [] => G_spec_l03May n n1 b (fun b1 => K (AV.sc (SV.bool b1)) [])
 | _, _ => none
noncomputable def pa_spec_Walk__o_spec_l03Entry (N : Nat) (G_spec_l03Entry : ∀ {R : Type} (s : ByteArray) (n : Int) (n1 : Int) (k : Int → Bool → Option R), Option R) {R : Type} (args : List AV) (H : Hp E) (K : AV → Hp E → Option R) : Option R :=
 match args, H with
 | [(AV.sc (SV.str s)), (AV.sc (SV.int IntKind.i64 n)), (AV.sc (SV.int IntKind.i64 n1))], [] => G_spec_l03Entry s n n1 (fun n3 b => K (AV.tup [(false, [(SV.int IntKind.i64 n3)]), (false, [(SV.bool b)])]) [])
 | _, _ => none
noncomputable def pa_spec_Walk__o_spec_l03Acc (N : Nat) (G_spec_l03Acc : ∀ {R : Type} (n : Int) (k : Bool → Option R), Option R) {R : Type} (args : List AV) (H : Hp E) (K : AV → Hp E → Option R) : Option R :=
 match args, H with
 | [(AV.sc (SV.int IntKind.i64 n))], [] => G_spec_l03Acc n (fun b => K (AV.sc (SV.bool b)) [])
 | _, _ => none
noncomputable def pa_spec_Walk__o_spec_MemFault (N : Nat) (G_spec_MemFault : ∀ {R : Type} (s : ByteArray) (k : Int → Option R), Option R) {R : Type} (args : List AV) (H : Hp E) (K : AV → Hp E → Option R) : Option R :=
 match args, H with
 | [(AV.sc (SV.str s))], [] => G_spec_MemFault s (fun n => K (AV.sc (SV.int IntKind.i64 n)) [])
 | _, _ => none
noncomputable def OA_spec_Walk (N : Nat) (G_spec_SetWord : ∀ {R : Type} (s : ByteArray) (n : Int) (n1 : Int) (k : ByteArray → Option R), Option R) (G_spec_l03May : ∀ {R : Type} (n : Int) (n1 : Int) (b : Bool) (k : Bool → Option R), Option R) (G_spec_l03Entry : ∀ {R : Type} (s : ByteArray) (n : Int) (n1 : Int) (k : Int → Bool → Option R), Option R) (G_spec_l03Acc : ∀ {R : Type} (n : Int) (k : Bool → Option R), Option R) (G_spec_MemFault : ∀ {R : Type} (s : ByteArray) (k : Int → Option R), Option R) : Orc E := addFn 38 (pa_spec_Walk__o_spec_SetWord N G_spec_SetWord) (addFn 37 (pa_spec_Walk__o_spec_l03May N G_spec_l03May) (addFn 36 (pa_spec_Walk__o_spec_l03Entry N G_spec_l03Entry) (addFn 35 (pa_spec_Walk__o_spec_l03Acc N G_spec_l03Acc) (addFn 10 (pa_spec_Walk__o_spec_MemFault N G_spec_MemFault) (noFn)))))
theorem O_spec_Walk_ok (N : Nat) : OrcOk (O_spec_Walk N) := addFn_ok (o_spec_SetWord_ok N) (addFn_ok (o_spec_l03May_ok N) (addFn_ok (o_spec_l03Entry_ok N) (addFn_ok (o_spec_l03Acc_ok N) (addFn_ok (o_spec_MemFault_ok N) (noFn_ok)))))
noncomputable def g_spec_Walk (N : Nat) {R : Type} (s : ByteArray) (n : Int) (n1 : Int) (n2 : Int) (b : Bool) (k : Int → Int → Int → Bool → Bool → ByteArray → (List Int) → Option R) : Option R :=
 (oK (g_spec_MemFault N s fun n3 =>
 (cond (n3 != (0 : Int))
 (some true)
 (cond (decide ((n < (0 : Int))))
 (some true)
 (cond (decide ((n > (255 : Int))))
 (some true)
 (cond (decide ((n1 < (0 : Int))))
 (some true)
 (cond (decide ((n1 ≥ (262144 : Int))))
 (some true)
 (g_spec_l03Acc N n2 fun b1 =>
 (some (!b1))))))))) fun j =>
 (cond j
 (k (0 : Int) (0 : Int) (0 : Int) false true (ByteArray.mk (List.toArray [])) [])
 (g_spec_l03Entry N s n (Int.fdiv n1 (8192 : Int)) fun n4 b2 =>
 (cond (!b2)
 (k (2 : Int) (0 : Int) (0 : Int) false false s [])
 (oK (cond ((IntKind.wrap IntKind.i64 (((BitVec.toNat ((BitVec.ofInt 64 n4) &&& (BitVec.ofInt 64 (1 : Int)))) : Nat) : Int)) != (0 : Int))
 (some ((IntKind.wrap IntKind.i64 (((BitVec.toNat ((BitVec.ofInt 64 n4) &&& (BitVec.ofInt 64 (14 : Int)))) : Nat) : Int)) == (0 : Int)))
 (some false)) fun j1 =>
 (cond j1
 (g_spec_l03Entry N s (Int.fdiv n4 (256 : Int)) (Int.tmod (Int.fdiv n1 (256 : Int)) (32 : Int)) fun n5 b3 =>
 (cond (!b3)
 (k (2 : Int) (0 : Int) (0 : Int) false false s [n])
 (oK (cond ((IntKind.wrap IntKind.i64 (((BitVec.toNat ((BitVec.ofInt 64 n5) &&& (BitVec.ofInt 64 (1 : Int)))) : Nat) : Int)) == (0 : Int))
 (some true)
 (cond ((IntKind.wrap IntKind.i64 (((BitVec.toNat ((BitVec.ofInt 64 n5) &&& (BitVec.ofInt 64 (14 : Int)))) : Nat) : Int)) == (0 : Int))
 (some true)
 (g_spec_l03May N n5 n2 b fun b4 =>
 (some (!b4))))) fun j2 =>
 (cond j2
 (k (1 : Int) (0 : Int) (0 : Int) false (cond (Nat.beq (List.length [(Int.fdiv n4 (256 : Int))]) 0) false false) s ([n] ++ [(Int.fdiv n4 (256 : Int))]))
 (oK (some (Int.fdiv n5 (256 : Int))) fun j3 =>
 (cond (decide (((IntKind.wrap IntKind.i64 ((IntKind.wrap IntKind.i64 (j3 + (1 : Int))) * (256 : Int))) > (((ByteArray.size s) : Nat) : Int))))
 (k (2 : Int) (0 : Int) (0 : Int) false (cond (Nat.beq (List.length [(Int.fdiv n4 (256 : Int))]) 0) false false) s ([n] ++ [(Int.fdiv n4 (256 : Int))]))
 (oK (cond (n2 == (2 : Int))
 (some (IntKind.wrap IntKind.i64 (((BitVec.toNat ((BitVec.ofInt 64 (IntKind.wrap IntKind.i64 (((BitVec.toNat ((BitVec.ofInt 64 n5) ||| (BitVec.ofInt 64 (32 : Int)))) : Nat) : Int))) ||| (BitVec.ofInt 64 (64 : Int)))) : Nat) : Int)))
 (some (IntKind.wrap IntKind.i64 (((BitVec.toNat ((BitVec.ofInt 64 n5) ||| (BitVec.ofInt 64 (32 : Int)))) : Nat) : Int)))) fun j4 =>
 (g_spec_SetWord N s (IntKind.wrap IntKind.i64 ((IntKind.wrap IntKind.i64 ((Int.fdiv n4 (256 : Int)) * (256 : Int))) + (IntKind.wrap IntKind.i64 ((4 : Int) * (Int.tmod (Int.fdiv n1 (256 : Int)) (32 : Int)))))) j4 fun s1 =>
 (k (0 : Int) (IntKind.wrap IntKind.i64 ((IntKind.wrap IntKind.i64 (j3 * (256 : Int))) + (Int.tmod n1 (256 : Int)))) j4 false (cond (Nat.beq (List.length [(Int.fdiv n4 (256 : Int))]) 0) false false) s1 ([n] ++ [(Int.fdiv n4 (256 : Int))]))))))))))
 (oK (cond ((IntKind.wrap IntKind.i64 (((BitVec.toNat ((BitVec.ofInt 64 n4) &&& (BitVec.ofInt 64 (1 : Int)))) : Nat) : Int)) == (0 : Int))
 (some true)
 (cond ((IntKind.wrap IntKind.i64 (((BitVec.toNat ((BitVec.ofInt 64 n4) &&& (BitVec.ofInt 64 (14 : Int)))) : Nat) : Int)) == (0 : Int))
 (some true)
 (cond ((Int.tmod (Int.fdiv n4 (256 : Int)) (32 : Int)) != (0 : Int))
 (some true)
 (g_spec_l03May N n4 n2 b fun b5 =>
 (some (!b5)))))) fun j5 =>
 (cond j5
 (k (1 : Int) (0 : Int) (0 : Int) false false s [n])
 (oK (some (IntKind.wrap IntKind.i64 ((Int.fdiv n4 (256 : Int)) + (Int.tmod (Int.fdiv n1 (256 : Int)) (32 : Int))))) fun j6 =>
 (cond (decide (((IntKind.wrap IntKind.i64 ((IntKind.wrap IntKind.i64 (j6 + (1 : Int))) * (256 : Int))) > (((ByteArray.size s) : Nat) : Int))))
 (k (2 : Int) (0 : Int) (0 : Int) false false s [n])
 (oK (cond (n2 == (2 : Int))
 (some (IntKind.wrap IntKind.i64 (((BitVec.toNat ((BitVec.ofInt 64 (IntKind.wrap IntKind.i64 (((BitVec.toNat ((BitVec.ofInt 64 n4) ||| (BitVec.ofInt 64 (32 : Int)))) : Nat) : Int))) ||| (BitVec.ofInt 64 (64 : Int)))) : Nat) : Int)))
 (some (IntKind.wrap IntKind.i64 (((BitVec.toNat ((BitVec.ofInt 64 n4) ||| (BitVec.ofInt 64 (32 : Int)))) : Nat) : Int)))) fun j7 =>
 (g_spec_SetWord N s (IntKind.wrap IntKind.i64 ((IntKind.wrap IntKind.i64 (n * (256 : Int))) + (IntKind.wrap IntKind.i64 ((4 : Int) * (Int.fdiv n1 (8192 : Int)))))) j7 fun s2 =>
 (k (0 : Int) (IntKind.wrap IntKind.i64 ((IntKind.wrap IntKind.i64 (j6 * (256 : Int))) + (Int.tmod n1 (256 : Int)))) j7 true false s2 [n])))))))))))))
noncomputable def ga_g_spec_Walk (N : Nat) (G_spec_SetWord : ∀ {R : Type} (s : ByteArray) (n : Int) (n1 : Int) (k : ByteArray → Option R), Option R) (G_spec_l03May : ∀ {R : Type} (n : Int) (n1 : Int) (b : Bool) (k : Bool → Option R), Option R) (G_spec_l03Entry : ∀ {R : Type} (s : ByteArray) (n : Int) (n1 : Int) (k : Int → Bool → Option R), Option R) (G_spec_l03Acc : ∀ {R : Type} (n : Int) (k : Bool → Option R), Option R) (G_spec_MemFault : ∀ {R : Type} (s : ByteArray) (k : Int → Option R), Option R) {R : Type} (s : ByteArray) (n : Int) (n1 : Int) (n2 : Int) (b : Bool) (k : Int → Int → Int → Bool → Bool → ByteArray → (List Int) → Option R) : Option R :=
 (oK (G_spec_MemFault s fun n3 =>
 (cond (n3 != (0 : Int))
 (some true)
 (cond (decide ((n < (0 : Int))))
 (some true)
 (cond (decide ((n > (255 : Int))))
 (some true)
 (cond (decide ((n1 < (0 : Int))))
 (some true)
 (cond (decide ((n1 ≥ (262144 : Int))))
 (some true)
 (G_spec_l03Acc n2 fun b1 =>
 (some (!b1))))))))) fun j =>
 (cond j
 (k (0 : Int) (0 : Int) (0 : Int) false true (ByteArray.mk (List.toArray [])) [])
 (G_spec_l03Entry s n (Int.fdiv n1 (8192 : Int)) fun n4 b2 =>
 (cond (!b2)
 (k (2 : Int) (0 : Int) (0 : Int) false false s [])
 (oK (cond ((IntKind.wrap IntKind.i64 (((BitVec.toNat ((BitVec.ofInt 64 n4) &&& (BitVec.ofInt 64 (1 : Int)))) : Nat) : Int)) != (0 : Int))
 (some ((IntKind.wrap IntKind.i64 (((BitVec.toNat ((BitVec.ofInt 64 n4) &&& (BitVec.ofInt 64 (14 : Int)))) : Nat) : Int)) == (0 : Int)))
 (some false)) fun j1 =>
 (cond j1
 (G_spec_l03Entry s (Int.fdiv n4 (256 : Int)) (Int.tmod (Int.fdiv n1 (256 : Int)) (32 : Int)) fun n5 b3 =>
 (cond (!b3)
 (k (2 : Int) (0 : Int) (0 : Int) false false s [n])
 (oK (cond ((IntKind.wrap IntKind.i64 (((BitVec.toNat ((BitVec.ofInt 64 n5) &&& (BitVec.ofInt 64 (1 : Int)))) : Nat) : Int)) == (0 : Int))
 (some true)
 (cond ((IntKind.wrap IntKind.i64 (((BitVec.toNat ((BitVec.ofInt 64 n5) &&& (BitVec.ofInt 64 (14 : Int)))) : Nat) : Int)) == (0 : Int))
 (some true)
 (G_spec_l03May n5 n2 b fun b4 =>
 (some (!b4))))) fun j2 =>
 (cond j2
 (k (1 : Int) (0 : Int) (0 : Int) false (cond (Nat.beq (List.length [(Int.fdiv n4 (256 : Int))]) 0) false false) s ([n] ++ [(Int.fdiv n4 (256 : Int))]))
 (oK (some (Int.fdiv n5 (256 : Int))) fun j3 =>
 (cond (decide (((IntKind.wrap IntKind.i64 ((IntKind.wrap IntKind.i64 (j3 + (1 : Int))) * (256 : Int))) > (((ByteArray.size s) : Nat) : Int))))
 (k (2 : Int) (0 : Int) (0 : Int) false (cond (Nat.beq (List.length [(Int.fdiv n4 (256 : Int))]) 0) false false) s ([n] ++ [(Int.fdiv n4 (256 : Int))]))
 (oK (cond (n2 == (2 : Int))
 (some (IntKind.wrap IntKind.i64 (((BitVec.toNat ((BitVec.ofInt 64 (IntKind.wrap IntKind.i64 (((BitVec.toNat ((BitVec.ofInt 64 n5) ||| (BitVec.ofInt 64 (32 : Int)))) : Nat) : Int))) ||| (BitVec.ofInt 64 (64 : Int)))) : Nat) : Int)))
 (some (IntKind.wrap IntKind.i64 (((BitVec.toNat ((BitVec.ofInt 64 n5) ||| (BitVec.ofInt 64 (32 : Int)))) : Nat) : Int)))) fun j4 =>
 (G_spec_SetWord s (IntKind.wrap IntKind.i64 ((IntKind.wrap IntKind.i64 ((Int.fdiv n4 (256 : Int)) * (256 : Int))) + (IntKind.wrap IntKind.i64 ((4 : Int) * (Int.tmod (Int.fdiv n1 (256 : Int)) (32 : Int)))))) j4 fun s1 =>
 (k (0 : Int) (IntKind.wrap IntKind.i64 ((IntKind.wrap IntKind.i64 (j3 * (256 : Int))) + (Int.tmod n1 (256 : Int)))) j4 false (cond (Nat.beq (List.length [(Int.fdiv n4 (256 : Int))]) 0) false false) s1 ([n] ++ [(Int.fdiv n4 (256 : Int))]))))))))))
 (oK (cond ((IntKind.wrap IntKind.i64 (((BitVec.toNat ((BitVec.ofInt 64 n4) &&& (BitVec.ofInt 64 (1 : Int)))) : Nat) : Int)) == (0 : Int))
 (some true)
 (cond ((IntKind.wrap IntKind.i64 (((BitVec.toNat ((BitVec.ofInt 64 n4) &&& (BitVec.ofInt 64 (14 : Int)))) : Nat) : Int)) == (0 : Int))
 (some true)
 (cond ((Int.tmod (Int.fdiv n4 (256 : Int)) (32 : Int)) != (0 : Int))
 (some true)
 (G_spec_l03May n4 n2 b fun b5 =>
 (some (!b5)))))) fun j5 =>
 (cond j5
 (k (1 : Int) (0 : Int) (0 : Int) false false s [n])
 (oK (some (IntKind.wrap IntKind.i64 ((Int.fdiv n4 (256 : Int)) + (Int.tmod (Int.fdiv n1 (256 : Int)) (32 : Int))))) fun j6 =>
 (cond (decide (((IntKind.wrap IntKind.i64 ((IntKind.wrap IntKind.i64 (j6 + (1 : Int))) * (256 : Int))) > (((ByteArray.size s) : Nat) : Int))))
 (k (2 : Int) (0 : Int) (0 : Int) false false s [n])
 (oK (cond (n2 == (2 : Int))
 (some (IntKind.wrap IntKind.i64 (((BitVec.toNat ((BitVec.ofInt 64 (IntKind.wrap IntKind.i64 (((BitVec.toNat ((BitVec.ofInt 64 n4) ||| (BitVec.ofInt 64 (32 : Int)))) : Nat) : Int))) ||| (BitVec.ofInt 64 (64 : Int)))) : Nat) : Int)))
 (some (IntKind.wrap IntKind.i64 (((BitVec.toNat ((BitVec.ofInt 64 n4) ||| (BitVec.ofInt 64 (32 : Int)))) : Nat) : Int)))) fun j7 =>
 (G_spec_SetWord s (IntKind.wrap IntKind.i64 ((IntKind.wrap IntKind.i64 (n * (256 : Int))) + (IntKind.wrap IntKind.i64 ((4 : Int) * (Int.fdiv n1 (8192 : Int)))))) j7 fun s2 =>
 (k (0 : Int) (IntKind.wrap IntKind.i64 ((IntKind.wrap IntKind.i64 (j6 * (256 : Int))) + (Int.tmod n1 (256 : Int)))) j7 true false s2 [n])))))))))))))
theorem ea_e_spec_Walk (N : Nat) (G_spec_SetWord : ∀ {R : Type} (s : ByteArray) (n : Int) (n1 : Int) (k : ByteArray → Option R), Option R) (G_spec_l03May : ∀ {R : Type} (n : Int) (n1 : Int) (b : Bool) (k : Bool → Option R), Option R) (G_spec_l03Entry : ∀ {R : Type} (s : ByteArray) (n : Int) (n1 : Int) (k : Int → Bool → Option R), Option R) (G_spec_l03Acc : ∀ {R : Type} (n : Int) (k : Bool → Option R), Option R) (G_spec_MemFault : ∀ {R : Type} (s : ByteArray) (k : Int → Option R), Option R) {R : Type} (s : ByteArray) (n : Int) (n1 : Int) (n2 : Int) (b : Bool) (K : AV → Hp E → Option R) :
    runFnI (E := E) (OA_spec_Walk N G_spec_SetWord G_spec_l03May G_spec_l03Entry G_spec_l03Acc G_spec_MemFault) (noIt) sl_spec_Walk J_spec_Walk Try.f9 [(AV.sc (SV.str s)), (AV.sc (SV.int IntKind.i64 n)), (AV.sc (SV.int IntKind.i64 n1)), (AV.sc (SV.int IntKind.i64 n2)), (AV.sc (SV.bool b))] [] K =
      ga_g_spec_Walk N G_spec_SetWord G_spec_l03May G_spec_l03Entry G_spec_l03Acc G_spec_MemFault s n n1 n2 b (fun n6 n7 n8 b6 b7 s3 l => K (AV.agg [(SV.int IntKind.i64 n6), (SV.int IntKind.i64 n7), (SV.int IntKind.i64 n8), (SV.bool b6), (SV.slc 0 none b7), (SV.str s3)]) [(some (HE.mk false (HB.rows (B.i64 l))))]) := by kernel_rfl
theorem e_spec_Walk (N : Nat) {R : Type} (s : ByteArray) (n : Int) (n1 : Int) (n2 : Int) (b : Bool) (K : AV → Hp E → Option R) :
    runFnI (E := E) (O_spec_Walk N) (noIt) sl_spec_Walk J_spec_Walk Try.f9 [(AV.sc (SV.str s)), (AV.sc (SV.int IntKind.i64 n)), (AV.sc (SV.int IntKind.i64 n1)), (AV.sc (SV.int IntKind.i64 n2)), (AV.sc (SV.bool b))] [] K =
      g_spec_Walk N s n n1 n2 b (fun n6 n7 n8 b6 b7 s3 l => K (AV.agg [(SV.int IntKind.i64 n6), (SV.int IntKind.i64 n7), (SV.int IntKind.i64 n8), (SV.bool b6), (SV.slc 0 none b7), (SV.str s3)]) [(some (HE.mk false (HB.rows (B.i64 l))))]) := castPr (by kernel_rfl) (ea_e_spec_Walk N (g_spec_SetWord N) (g_spec_l03May N) (g_spec_l03Entry N) (g_spec_l03Acc N) (g_spec_MemFault N) s n n1 n2 b K)
noncomputable def o_spec_Walk (N : Nat) {R : Type} (args : List AV) (H : Hp E) (K : AV → Hp E → Option R) : Option R :=
 match args, H with
 | [(AV.sc (SV.str s)), (AV.sc (SV.int IntKind.i64 n)), (AV.sc (SV.int IntKind.i64 n1)), (AV.sc (SV.int IntKind.i64 n2)), (AV.sc (SV.bool b))], [] => g_spec_Walk N s n n1 n2 b (fun n6 n7 n8 b6 b7 s3 l => K (AV.agg [(SV.int IntKind.i64 n6), (SV.int IntKind.i64 n7), (SV.int IntKind.i64 n8), (SV.bool b6), (SV.slc 0 none b7), (SV.str s3)]) [(some (HE.mk false (HB.rows (B.i64 l))))])
 | _, _ => none
theorem o_spec_Walk_ok (N : Nat) : FnOk E 9 (o_spec_Walk N) := by
  intro R args H K r h
  unfold o_spec_Walk at h
  dsimp only at h
  split at h
  · exact fnB_ok (ids := []) (top := []) ok (O_spec_Walk_ok N) (jn_ok _ _ _) Try.func9 (by kernel_rfl) (IT := noIt) (sl := sl_spec_Walk) (J := J_spec_Walk) (K := K) (H := []) (noIt_ok) (by kernel_rfl) rfl ((e_spec_Walk N _ _ _ _ _ K).trans h)
  · cases h
/-! ### loop.example/g00038/impl.ymemOk -/
abbrev sl_impl_ymemOk : SlotT := []
abbrev J_impl_ymemOk : JT := jn [(1, [(2, .b)])] [] []
noncomputable def O_impl_ymemOk (N : Nat) : Orc E := noFn
theorem O_impl_ymemOk_ok (N : Nat) : OrcOk (O_impl_ymemOk N) := noFn_ok
noncomputable def g_impl_ymemOk (N : Nat) {R : Type} (s : ByteArray) (k : Bool → Option R) : Option R :=
 (oK (cond (decide (((((ByteArray.size s) : Nat) : Int) ≥ (256 : Int))))
 (cond (decide (((((ByteArray.size s) : Nat) : Int) ≤ (65536 : Int))))
 (some ((Int.tmod (((ByteArray.size s) : Nat) : Int) (256 : Int)) == (0 : Int)))
 (some false))
 (some false)) fun j =>
 (k j))
theorem e_impl_ymemOk (N : Nat) {R : Type} (s : ByteArray) (K : AV → Hp E → Option R) :
    runFnI (E := E) (O_impl_ymemOk N) (noIt) sl_impl_ymemOk J_impl_ymemOk Try.f30 [(AV.sc (SV.str s))] [] K =
      g_impl_ymemOk N s (fun b => K (AV.sc (SV.bool b)) []) := by kernel_rfl
noncomputable def o_impl_ymemOk (N : Nat) {R : Type} (args : List AV) (H : Hp E) (K : AV → Hp E → Option R) : Option R :=
 match args, H with
 | [(AV.sc (SV.str s))], [] => g_impl_ymemOk N s (fun b => K (AV.sc (SV.bool b)) [])
 | _, _ => none
theorem o_impl_ymemOk_ok (N : Nat) : FnOk E 30 (o_impl_ymemOk N) := by
  intro R args H K r h
  unfold o_impl_ymemOk at h
  dsimp only at h
  split at h
  · exact fnB_ok (ids := []) (top := []) ok (O_impl_ymemOk_ok N) (jn_ok _ _ _) Try.func30 (by kernel_rfl) (IT := noIt) (sl := sl_impl_ymemOk) (J := J_impl_ymemOk) (K := K) (H := []) (noIt_ok) (by kernel_rfl) rfl ((e_impl_ymemOk N _ K).trans h)
  · cases h
/-! ### loop.example/g00038/impl.yin -/
abbrev sl_impl_yin : SlotT := []
abbrev J_impl_yin : JT := jn [(1, [(6, .b)])] [] []
noncomputable def O_impl_yin (N : Nat) : Orc E := noFn
theorem O_impl_yin_ok (N : Nat) : OrcOk (O_impl_yin N) := noFn_ok
noncomputable def g_impl_yin (N : Nat) {R : Type} (n : Int) (n1 : Int) (n2 : Int) (k : Bool → Option R) : Option R :=
 (oK (cond (decide ((n ≥ n1)))
 (some (decide ((n ≤ n2))))
 (some false)) fun j =>
 (k j))
theorem e_impl_yin (N : Nat) {R : Type} (n : Int) (n1 : Int) (n2 : Int) (K : AV → Hp E → Option R) :
    runFnI (E := E) (O_impl_yin N) (noIt) sl_impl_yin J_impl_yin Try.f42 [(AV.sc (SV.int IntKind.i64 n)), (AV.sc (SV.int IntKind.i64 n1)), (AV.sc (SV.int IntKind.i64 n2))] [] K =
      g_impl_yin N n n1 n2 (fun b => K (AV.sc (SV.bool b)) []) := by kernel_rfl
noncomputable def o_impl_yin (N : Nat) {R : Type} (args : List AV) (H : Hp E) (K : AV → Hp E → Option R) : Option R :=
 match args, H with
 | [(AV.sc (SV.int IntKind.i64 n)), (AV.sc (SV.int IntKind.i64 n1)), (AV.sc (SV.int IntKind.i64 n2))], [] => g_impl_yin N n n1 n2 (fun b => K (AV.sc (SV.bool b)) [])
 | _, _ => none
theorem o_impl_yin_ok (N : Nat) : FnOk E 42 (o_impl_yin N) := by
  intro R args H K r h
  unfold o_impl_yin at h
  dsimp only at h
  split at h
  · exact fnB_ok (ids := []) (top := []) ok (O_impl_yin_ok N) (jn_ok _ _ _) Try.func42 (by kernel_rfl) (IT := noIt) (sl := sl_impl_yin) (J := J_impl_yin) (K := K) (H := []) (noIt_ok) (by kernel_rfl) rfl ((e_impl_yin N _ _ _ K).trans h)
  · cases h
/-! ### loop.example/g00038/impl.ywalkOk -/
abbrev sl_impl_ywalkOk : SlotT := []
abbrev J_impl_ywalkOk : JT := jn [(1, [(6, .b)])] [] []
noncomputable def O_impl_ywalkOk (N : Nat) : Orc E := addFn 42 (o_impl_yin N) (noFn)
theorem O_impl_ywalkOk_ok (N : Nat) : OrcOk (O_impl_ywalkOk N) := addFn_ok (o_impl_yin_ok N) (noFn_ok)
noncomputable def g_impl_ywalkOk (N : Nat) {R : Type} (n : Int) (n1 : Int) (n2 : Int) (k : Bool → Option R) : Option R :=
 (oK (g_impl_yin N n (0 : Int) (255 : Int) fun b =>
 (cond b
 (g_impl_yin N n1 (0 : Int) (262143 : Int) fun b1 =>
 (cond b1
 (g_impl_yin N n2 (1 : Int) (3 : Int) fun b2 =>
 (some b2))
 (some false)))
 (some false))) fun j =>
 (k j))
theorem e_impl_ywalkOk (N : Nat) {R : Type} (n : Int) (n1 : Int) (n2 : Int) (K : AV → Hp E → Option R) :
    runFnI (E := E) (O_impl_ywalkOk N) (noIt) sl_impl_ywalkOk J_impl_ywalkOk Try.f31 [(AV.sc (SV.int IntKind.i64 n)), (AV.sc (SV.int IntKind.i64 n1)), (AV.sc (SV.int IntKind.i64 n2))] [] K =
      g_impl_ywalkOk N n n1 n2 (fun b3 => K (AV.sc (SV.bool b3)) []) := by kernel_rfl
noncomputable def o_impl_ywalkOk (N : Nat) {R : Type} (args : List AV) (H : Hp E) (K : AV → Hp E → Option R) : Option R :=
 match args, H with
 | [(AV.sc (SV.int IntKind.i64 n)), (AV.sc (SV.int IntKind.i64 n1)), (AV.sc (SV.int IntKind.i64 n2))], [] => g_impl_ywalkOk N n n1 n2 (fun b3 => K (AV.sc (SV.bool b3)) [])
 | _, _ => none
theorem o_impl_ywalkOk_ok (N : Nat) : FnOk E 31 (o_impl_ywalkOk N) := by
  intro R args H K r h
  unfold o_impl_ywalkOk at h
  dsimp only at h
  split at h
  · exact fnB_ok (ids := []) (top := []) ok (O_impl_ywalkOk_ok N) (jn_ok _ _ _) Try.func31 (by kernel_rfl) (IT := noIt) (sl := sl_impl_ywalkOk) (J := J_impl_ywalkOk) (K := K) (H := []) (noIt_ok) (by kernel_rfl) rfl ((e_impl_ywalkOk N _ _ _ K).trans h)
  · cases h
/-! ### loop.example/g00038/impl.yframes -/
abbrev sl_impl_yframes_w : SlotT := []
abbrev J_impl_yframes_w : JT := jn [] [] []
noncomputable def O_impl_yframes_w (N : Nat) : Orc E := noFn
theorem O_impl_yframes_w_ok (N : Nat) : OrcOk (O_impl_yframes_w N) := noFn_ok
noncomputable def g_impl_yframes_w (N : Nat) {R : Type} (b : Bool) (l : List Int) (k : Int → Option R) : Option R :=
 (k (IntKind.wrap IntKind.i64 (Int.tdiv (((List.length l) : Nat) : Int) (256 : Int))))
theorem e_impl_yframes_w (N : Nat) {R : Type} (b : Bool) (l : List Int) (K : AV → Hp E → Option R) :
    runFnI (E := E) (O_impl_yframes_w N) (noIt) sl_impl_yframes_w J_impl_yframes_w Try.f66 [(AV.sc (SV.slc 0 none b))] [(some (HE.mk false (HB.rows (B.u8 l))))] K =
      g_impl_yframes_w N b l (fun n => K (AV.sc (SV.int IntKind.i64 n)) [(some (HE.mk false (HB.rows (B.u8 l))))]) := by kernel_rfl
noncomputable def o_impl_yframes_w (N : Nat) {R : Type} (args : List AV) (H : Hp E) (K : AV → Hp E → Option R) : Option R :=
 match args, H with
 | [(AV.sc (SV.slc 0 none b))], [(some (HE.mk false (HB.rows (B.u8 l))))] => g_impl_yframes_w N b l (fun n => K (AV.sc (SV.int IntKind.i64 n)) [(some (HE.mk false (HB.rows (B.u8 l))))])
 | _, _ => none
theorem o_impl_yframes_w_ok (N : Nat) : FnOk E 66 (o_impl_yframes_w N) := by
  intro R args H K r h
  unfold o_impl_yframes_w at h
  dsimp only at h
  split at h
  · exact fnB_ok (ids := []) (top := []) ok (O_impl_yframes_w_ok N) (jn_ok _ _ _) Try.func66 (by kernel_rfl) (IT := noIt) (sl := sl_impl_yframes_w) (J := J_impl_yframes_w) (K := K) (H := [(some (HE.mk false (HB.rows (B.u8 _))))]) (noIt_ok) (by kernel_rfl) rfl ((e_impl_yframes_w N _ _ K).trans h)
  · cases h
/-! ### loop.example/g00038/impl.ygetWord -/
abbrev sl_impl_ygetWord_w : SlotT := []
abbrev J_impl_ygetWord_w : JT := jn [] [] []
noncomputable def O_impl_ygetWord_w (N : Nat) : Orc E := noFn
theorem O_impl_ygetWord_w_ok (N : Nat) : OrcOk (O_impl_ygetWord_w N) := noFn_ok
noncomputable def g_impl_ygetWord_w (N : Nat) {R : Type} (b : Bool) (n : Int) (l : List Int) (k : Int → Option R) : Option R :=
 (cond ((decide (((0 : Int) ≤ n))) && (decide ((n < (((List.length l) : Nat) : Int)))))
 (elemK l (Int.toNat n) fun x =>
 (cond ((decide (((0 : Int) ≤ (IntKind.wrap IntKind.i64 (n + (1 : Int)))))) && (decide (((IntKind.wrap IntKind.i64 (n + (1 : Int))) < (((List.length l) : Nat) : Int)))))
 (elemK l (Int.toNat (IntKind.wrap IntKind.i64 (n + (1 : Int)))) fun x1 =>
 (cond ((decide (((0 : Int) ≤ (IntKind.wrap IntKind.i64 (n + (2 : Int)))))) && (decide (((IntKind.wrap IntKind.i64 (n + (2 : Int))) < (((List.length l) : Nat) : Int)))))
 (elemK l (Int.toNat (IntKind.wrap IntKind.i64 (n + (2 : Int)))) fun x2 =>
 (cond ((decide (((0 : Int) ≤ (IntKind.wrap IntKind.i64 (n + (3 : Int)))))) && (decide (((IntKind.wrap IntKind.i64 (n + (3 : Int))) < (((List.length l) : Nat) : Int)))))
 (elemK l (Int.toNat (IntKind.wrap IntKind.i64 (n + (3 : Int)))) fun x3 =>
 (k (IntKind.wrap IntKind.i64 (((BitVec.toNat ((BitVec.ofInt 64 (IntKind.wrap IntKind.i64 (((BitVec.toNat ((BitVec.ofInt 64 (IntKind.wrap IntKind.i64 (((BitVec.toNat ((BitVec.ofInt 64 (IntKind.wrap IntKind.i64 x)) ||| (BitVec.ofInt 64 (IntKind.wrap IntKind.i64 ((IntKind.wrap IntKind.i64 x1) * (256 : Int)))))) : Nat) : Int))) ||| (BitVec.ofInt 64 (IntKind.wrap IntKind.i64 ((IntKind.wrap IntKind.i64 x2) * (65536 : Int)))))) : Nat) : Int))) ||| (BitVec.ofInt 64 (IntKind.wrap IntKind.i64 ((IntKind.wrap IntKind.i64 x3) * (16777216 : Int)))))) : Nat) : Int))))
 none))
 none))
 none))
 none)
theorem e_impl_ygetWord_w (N : Nat) {R : Type} (b : Bool) (n : Int) (l : List Int) (K : AV → Hp E → Option R) :
    runFnI (E := E) (O_impl_ygetWord_w N) (noIt) sl_impl_ygetWord_w J_impl_ygetWord_w Try.f46 [(AV.sc (SV.slc 0 none b)), (AV.sc (SV.int IntKind.i64 n))] [(some (HE.mk false (HB.rows (B.u8 l))))] K =
      g_impl_ygetWord_w N b n l (fun n1 => K (AV.sc (SV.int IntKind.i64 n1)) [(some (HE.mk false (HB.rows (B.u8 l))))]) := by kernel_rfl
noncomputable def o_impl_ygetWord_w (N : Nat) {R : Type} (args : List AV) (H : Hp E) (K : AV → Hp E → Option R) : Option R :=
 match args, H with
 | [(AV.sc (SV.slc 0 none b)), (AV.sc (SV.int IntKind.i64 n))], [(some (HE.mk false (HB.rows (B.u8 l))))] => g_impl_ygetWord_w N b n l (fun n1 => K (AV.sc (SV.int IntKind.i64 n1)) [(some (HE.mk false (HB.rows (B.u8 l))))])
 | _, _ => none
theorem o_impl_ygetWord_w_ok (N : Nat) : FnOk E 46 (o_impl_ygetWord_w N) := by
  intro R args H K r h
  unfold o_impl_ygetWord_w at h
  dsimp only at h
  split at h
  · exact fnB_ok (ids := []) (top := []) ok (O_impl_ygetWord_w_ok N) (jn_ok _ _ _) Try.func46 (by kernel_rfl) (IT := noIt) (sl := sl_impl_ygetWord_w) (J := J_impl_ygetWord_w) (K := K) (H := [(some (HE.mk false (HB.rows (B.u8 _))))]) (noIt_ok) (by kernel_rfl) rfl ((e_impl_ygetWord_w N _ _ _ K).trans h)
  · cases h
/-! ### loop.example/g00038/impl.ylets -/
abbrev sl_impl_ylets : SlotT := []
abbrev J_impl_ylets : JT := jn [(11, [(6, .b)])] [(8, [(7, .i .i64)]), (10, [(7, .i .i64)]), (14, [(7, .i .i64)]), (18, [(7, .i .i64)])] []
noncomputable def O_impl_ylets (N : Nat) : Orc E := noFn
theorem O_impl_ylets_ok (N : Nat) : OrcOk (O_impl_ylets N) := noFn_ok
noncomputable def g_impl_ylets (N : Nat) {R : Type} (n : Int) (n1 : Int) (b : Bool) (k : Bool → Option R) : Option R :=
 (oK (cond b
 (some (16 : Int))
 (some (0 : Int))) fun j =>
 (oK (cond (n1 == (1 : Int))
 (some (IntKind.wrap IntKind.i64 (((BitVec.toNat ((BitVec.ofInt 64 j) ||| (BitVec.ofInt 64 (2 : Int)))) : Nat) : Int)))
 (oK (cond (n1 == (2 : Int))
 (some (IntKind.wrap IntKind.i64 (((BitVec.toNat ((BitVec.ofInt 64 j) ||| (BitVec.ofInt 64 (4 : Int)))) : Nat) : Int)))
 (oK (cond (n1 == (3 : Int))
 (some (IntKind.wrap IntKind.i64 (((BitVec.toNat ((BitVec.ofInt 64 j) ||| (BitVec.ofInt 64 (8 : Int)))) : Nat) : Int)))
 (some j)) fun j1 =>
 (some j1))) fun j2 =>
 (some j2))) fun j3 =>
 (oK (cond ((IntKind.wrap IntKind.i64 (((BitVec.toNat ((BitVec.ofInt 64 n) &&& (BitVec.ofInt 64 (IntKind.wrap IntKind.i64 (((BitVec.toNat ((BitVec.ofInt 64 j3) ||| (BitVec.ofInt 64 (1 : Int)))) : Nat) : Int))))) : Nat) : Int)) == (IntKind.wrap IntKind.i64 (((BitVec.toNat ((BitVec.ofInt 64 j3) ||| (BitVec.ofInt 64 (1 : Int)))) : Nat) : Int)))
 (cond b
 (some true)
 (cond (n1 != (3 : Int))
 (some true)
 (some ((IntKind.wrap IntKind.i64 (((BitVec.toNat ((BitVec.ofInt 64 n) &&& (BitVec.ofInt 64 (16 : Int)))) : Nat) : Int)) == (0 : Int)))))
 (some false)) fun j4 =>
 (k j4))))
theorem e_impl_ylets (N : Nat) {R : Type} (n : Int) (n1 : Int) (b : Bool) (K : AV → Hp E → Option R) :
    runFnI (E := E) (O_impl_ylets N) (noIt) sl_impl_ylets J_impl_ylets Try.f47 [(AV.sc (SV.int IntKind.i64 n)), (AV.sc (SV.int IntKind.i64 n1)), (AV.sc (SV.bool b))] [] K =
      g_impl_ylets N n n1 b (fun b1 => K (AV.sc (SV.bool b1)) []) := by kernel_rfl
noncomputable def o_impl_ylets (N : Nat) {R : Type} (args : List AV) (H : Hp E) (K : AV → Hp E → Option R) : Option R :=
 match args, H with
 | [(AV.sc (SV.int IntKind.i64 n)), (AV.sc (SV.int IntKind.i64 n1)), (AV.sc (SV.bool b))], [] => g_impl_ylets N n n1 b (fun b1 => K (AV.sc (SV.bool b1)) [])
 | _, _ => none
theorem o_impl_ylets_ok (N : Nat) : FnOk E 47 (o_impl_ylets N) := by
  intro R args H K r h
  unfold o_impl_ylets at h
  dsimp only at h
  split at h
  · exact fnB_ok (ids := []) (top := []) ok (O_impl_ylets_ok N) (jn_ok _ _ _) Try.func47 (by kernel_rfl) (IT := noIt) (sl := sl_impl_ylets) (J := J_impl_ylets) (K := K) (H := []) (noIt_ok) (by kernel_rfl) rfl ((e_impl_ylets N _ _ _ K).trans h)
  · cases h
/-! ### loop.example/g00038/impl.yputs -/
abbrev sl_impl_yputs : SlotT := []
abbrev J_impl_yputs : JT := jn [] [] []
noncomputable def O_impl_yputs (N : Nat) : Orc E := noFn
theorem O_impl_yputs_ok (N : Nat) : OrcOk (O_impl_yputs N) := noFn_ok
noncomputable def g_impl_yputs (N : Nat) {R : Type} (n : Int) (k : Int → Option R) : Option R :=
 (cond (n == (2 : Int))
 (k (96 : Int))
 (k (32 : Int)))
theorem e_impl_yputs (N : Nat) {R : Type} (n : Int) (K : AV → Hp E → Option R) :
    runFnI (E := E) (O_impl_yputs N) (noIt) sl_impl_yputs J_impl_yputs Try.f48 [(AV.sc (SV.int IntKind.i64 n))] [] K =
      g_impl_yputs N n (fun n1 => K (AV.sc (SV.int IntKind.i64 n1)) []) := by kernel_rfl
noncomputable def o_impl_yputs (N : Nat) {R : Type} (args : List AV) (H : Hp E) (K : AV → Hp E → Option R) : Option R :=
 match args, H with
 | [(AV.sc (SV.int IntKind.i64 n))], [] => g_impl_yputs N n (fun n1 => K (AV.sc (SV.int IntKind.i64 n1)) [])
 | _, _ => none
theorem o_impl_yputs_ok (N : Nat) : FnOk E 48 (o_impl_yputs N) := by
  intro R args H K r h
  unfold o_impl_yputs at h
  dsimp only at h
  split at h
  · exact fnB_ok (ids := []) (top := []) ok (O_impl_yputs_ok N) (jn_ok _ _ _) Try.func48 (by kernel_rfl) (IT := noIt) (sl := sl_impl_yputs) (J := J_impl_yputs) (K := K) (H := []) (noIt_ok) (by kernel_rfl) rfl ((e_impl_yputs N _ K).trans h)
  · cases h
end Go.Sa
