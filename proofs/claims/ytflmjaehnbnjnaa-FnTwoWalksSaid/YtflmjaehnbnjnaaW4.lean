import Derived.Test.YtflmjaehnbnjnaaSpec
import Derived.Test.YtflmjaehnbnjnaaPLb
import Derived.Test.YtflmjaehnbnjnaaW3
set_option linter.all false
namespace Go.Sa
open Go Go.Eng Go.Proofs
set_option maxRecDepth 100000
set_option maxHeartbeats 4000000
/-! ### (*loop.example/g00038/spec.l01Src).tables -/
noncomputable def oc_spec_l01Src_tables_Wr_11 (N : Nat) {R : Type} (args : List AV) (H : Hp E) (K : AV → Hp E → Option R) : Option R :=
 match args, H with
 | [(AV.sc (SV.str _)), (AV.sc (SV.int IntKind.i64 _)), (AV.sc (SV.slc 0 none _)), (AV.sc (SV.slc 1 none _))], [(some (HE.mk false (HB.rows (B.iPageMap _)))), (some (HE.mk false (HB.rows (B.i64 _))))] => o_spec_MapPages_ww N args H K
 | [(AV.sc (SV.str _)), (AV.sc (SV.int IntKind.i64 _)), (AV.sc (SV.slc 0 none _)), (AV.sc (SV.slc 1 none _))], [(some (HE.mk true (HB.rows (B.iPageMap _)))), (some (HE.mk false (HB.rows (B.i64 _))))] => o_spec_MapPages_rw N args H K
 | _, _ => none
theorem oc_spec_l01Src_tables_Wr_11_ok (N : Nat) : FnOk E 11 (oc_spec_l01Src_tables_Wr_11 N) := by
  intro R args H K r h
  unfold oc_spec_l01Src_tables_Wr_11 at h
  dsimp only at h
  split at h
  · exact o_spec_MapPages_ww_ok N _ _ _ _ h
  · exact o_spec_MapPages_rw_ok N _ _ _ _ h
  · cases h
abbrev sl_spec_l01Src_tables_Wr : SlotT := [(0, ([0, 4, 5], [0, 4]))]
abbrev J_spec_l01Src_tables_Wr : JT := jn [] [] []
noncomputable def O_spec_l01Src_tables_Wr (N : Nat) : Orc E := addFn 38 (o_spec_SetWord N) (addFn 26 (o_spec_l01Src_one_Wr N) (addFn 11 (oc_spec_l01Src_tables_Wr_11 N) (addFn 53 (o_spec_l01Src_maps_Wr N) (addFn 65 (o_spec_l01Src_frames_Wr N) (addFn 27 (o_spec_l01Src_n_Wr N) (noFn))))))
noncomputable def pa_spec_l01Src_tables_Wr__o_spec_SetWord (N : Nat) (G_spec_SetWord : ∀ {R : Type} (s : ByteArray) (n : Int) (n1 : Int) (k : ByteArray → Option R), Option R) {R : Type} (args : List AV) (H : Hp E) (K : AV → Hp E → Option R) : Option R :=
 match args, H with
 | [(AV.sc (SV.str s)), (AV.sc (SV.int IntKind.i64 n)), (AV.sc (SV.int IntKind.i64 n1))], [] => G_spec_SetWord s n n1 (fun s2 => K (AV.sc (SV.str s2)) [])
 | _, _ => none
noncomputable def pa_spec_l01Src_tables_Wr__o_spec_l01Src_one_Wr (N : Nat) (G_spec_l01Src_one_Wr : ∀ {R : Type} (n : Int) (b : Bool) (n1 : Int) (n2 : Int) (n3 : Int) (l : List Int) (k : Bool → Int → Int → Option R), Option R) {R : Type} (args : List AV) (H : Hp E) (K : AV → Hp E → Option R) : Option R :=
 match args, H with
 | [(AV.sc (SV.ptr 0 0 0)), (AV.sc (SV.int IntKind.i64 n))], [(some (HE.mk false (HB.exp none [(SV.slc 1 none b), (SV.int IntKind.i64 n1), (SV.int IntKind.u64 n2), (SV.int IntKind.i64 n3)]))), (some (HE.mk true (HB.rows (B.u8 l))))] => G_spec_l01Src_one_Wr n b n1 n2 n3 l (fun b1 n7 n8 => K (AV.sc (SV.bool b1)) [(some (HE.mk false (HB.exp none [(SV.slc 1 none b), (SV.int IntKind.i64 n7), (SV.int IntKind.u64 n8), (SV.int IntKind.i64 n3)]))), (some (HE.mk true (HB.rows (B.u8 l))))])
 | _, _ => none
noncomputable def pa_spec_l01Src_tables_Wr__o_spec_MapPages_ww (N : Nat) (G_spec_MapPages_ww : ∀ {R : Type} (s : ByteArray) (n : Int) (b : Bool) (b1 : Bool) (l : List PageMap) (l1 : List Int) (k : Int → Int → ByteArray → Bool → (List PageMap) → (List Int) → (List Int) → Option R) (k_1 : ByteArray → Nat → Nat → Nat → Bool → (List PageMap) → (List Int) → (List Int) → Option R), Option R) {R : Type} (args : List AV) (H : Hp E) (K : AV → Hp E → Option R) : Option R :=
 match args, H with
 | [(AV.sc (SV.str s)), (AV.sc (SV.int IntKind.i64 n)), (AV.sc (SV.slc 0 none b)), (AV.sc (SV.slc 1 none b1))], [(some (HE.mk false (HB.rows (B.iPageMap l)))), (some (HE.mk false (HB.rows (B.i64 l1))))] => G_spec_MapPages_ww s n b b1 l l1 (fun n25 n26 s16 b17 l21 l22 l23 => K (AV.agg [(SV.int IntKind.i64 n25), (SV.int IntKind.i64 n26), (SV.str s16), (SV.slc 2 none b17)]) [(some (HE.mk false (HB.rows (B.iPageMap l21)))), (some (HE.mk false (HB.rows (B.i64 l22)))), (some (HE.mk false (HB.rows (B.i64 l23))))]) (fun s17 m16 m17 m18 b18 l24 l25 l26 => K (AV.agg [(SV.int IntKind.i64 (0 : Int)), (SV.int IntKind.i64 (0 : Int)), (SV.str s17), (SV.slc 2 (some (m16, (m17, m18))) b18)]) [(some (HE.mk false (HB.rows (B.iPageMap l24)))), (some (HE.mk false (HB.rows (B.i64 l25)))), (some (HE.mk false (HB.rows (B.i64 l26))))])
 | _, _ => none
noncomputable def pa_spec_l01Src_tables_Wr__o_spec_MapPages_rw (N : Nat) (G_spec_MapPages_rw : ∀ {R : Type} (s : ByteArray) (n : Int) (b : Bool) (b1 : Bool) (l : List PageMap) (l1 : List Int) (k : Int → Int → ByteArray → Bool → (List PageMap) → (List Int) → (List Int) → Option R) (k_1 : ByteArray → Nat → Nat → Nat → Bool → (List PageMap) → (List Int) → (List Int) → Option R), Option R) {R : Type} (args : List AV) (H : Hp E) (K : AV → Hp E → Option R) : Option R :=
 match args, H with
 | [(AV.sc (SV.str s)), (AV.sc (SV.int IntKind.i64 n)), (AV.sc (SV.slc 0 none b)), (AV.sc (SV.slc 1 none b1))], [(some (HE.mk true (HB.rows (B.iPageMap l)))), (some (HE.mk false (HB.rows (B.i64 l1))))] => G_spec_MapPages_rw s n b b1 l l1 (fun n25 n26 s16 b17 l21 l22 l23 => K (AV.agg [(SV.int IntKind.i64 n25), (SV.int IntKind.i64 n26), (SV.str s16), (SV.slc 2 none b17)]) [(some (HE.mk true (HB.rows (B.iPageMap l21)))), (some (HE.mk false (HB.rows (B.i64 l22)))), (some (HE.mk false (HB.rows (B.i64 l23))))]) (fun s17 m16 m17 m18 b18 l24 l25 l26 => K (AV.agg [(SV.int IntKind.i64 (0 : Int)), (SV.int IntKind.i64 (0 : Int)), (SV.str s17), (SV.slc 2 (some (m16, (m17, m18))) b18)]) [(some (HE.mk true (HB.rows (B.iPageMap l24)))), (some (HE.mk false (HB.rows (B.i64 l25)))), (some (HE.mk false (HB.rows (B.i64 l26))))])
 | _, _ => none
noncomputable def pa_spec_l01Src_tables_Wr__oc_spec_l01Src_tables_Wr_11 (N : Nat) (G_spec_MapPages_ww : ∀ {R : Type} (s : ByteArray) (n : Int) (b : Bool) (b1 : Bool) (l : List PageMap) (l1 : List Int) (k : Int → Int → ByteArray → Bool → (List PageMap) → (List Int) → (List Int) → Option R) (k_1 : ByteArray → Nat → Nat → Nat → Bool → (List PageMap) → (List Int) → (List Int) → Option R), Option R) (G_spec_MapPages_rw : ∀ {R : Type} (s : ByteArray) (n : Int) (b : Bool) (b1 : Bool) (l : List PageMap) (l1 : List Int) (k : Int → Int → ByteArray → Bool → (List PageMap) → (List Int) → (List Int) → Option R) (k_1 : ByteArray → Nat → Nat → Nat → Bool → (List PageMap) → (List Int) → (List Int) → Option R), Option R) {R : Type} (args : List AV) (H : Hp E) (K : AV → Hp E → Option R) : Option R :=
 match args, H with
 | [(AV.sc (SV.str _)), (AV.sc (SV.int IntKind.i64 _)), (AV.sc (SV.slc 0 none _)), (AV.sc (SV.slc 1 none _))], [(some (HE.mk false (HB.rows (B.iPageMap _)))), (some (HE.mk false (HB.rows (B.i64 _))))] => pa_spec_l01Src_tables_Wr__o_spec_MapPages_ww N G_spec_MapPages_ww args H K
 | [(AV.sc (SV.str _)), (AV.sc (SV.int IntKind.i64 _)), (AV.sc (SV.slc 0 none _)), (AV.sc (SV.slc 1 none _))], [(some (HE.mk true (HB.rows (B.iPageMap _)))), (some (HE.mk false (HB.rows (B.i64 _))))] => pa_spec_l01Src_tables_Wr__o_spec_MapPages_rw N G_spec_MapPages_rw args H K
 | _, _ => none
noncomputable def pa_spec_l01Src_tables_Wr__o_spec_l01Src_maps_Wr (N : Nat) (G_spec_l01Src_maps_Wr : ∀ {R : Type} (n : Int) (b : Bool) (n1 : Int) (n2 : Int) (n3 : Int) (l : List Int) (k : Bool → Int → Int → (List PageMap) → Option R), Option R) {R : Type} (args : List AV) (H : Hp E) (K : AV → Hp E → Option R) : Option R :=
 match args, H with
 | [(AV.sc (SV.ptr 0 0 0)), (AV.sc (SV.int IntKind.i64 n))], [(some (HE.mk false (HB.exp none [(SV.slc 1 none b), (SV.int IntKind.i64 n1), (SV.int IntKind.u64 n2), (SV.int IntKind.i64 n3)]))), (some (HE.mk true (HB.rows (B.u8 l))))] => G_spec_l01Src_maps_Wr n b n1 n2 n3 l (fun b8 n44 n45 l5 => K (AV.sc (SV.slc 2 none b8)) [(some (HE.mk false (HB.exp none [(SV.slc 1 none b), (SV.int IntKind.i64 n44), (SV.int IntKind.u64 n45), (SV.int IntKind.i64 n3)]))), (some (HE.mk true (HB.rows (B.u8 l)))), (some (HE.mk false (HB.rows (B.iPageMap l5))))])
 | _, _ => none
noncomputable def pa_spec_l01Src_tables_Wr__o_spec_l01Src_frames_Wr (N : Nat) (G_spec_l01Src_frames_Wr : ∀ {R : Type} (n : Int) (b : Bool) (n1 : Int) (n2 : Int) (n3 : Int) (l : List Int) (k : ByteArray → Int → Int → Option R), Option R) {R : Type} (args : List AV) (H : Hp E) (K : AV → Hp E → Option R) : Option R :=
 match args, H with
 | [(AV.sc (SV.ptr 0 0 0)), (AV.sc (SV.int IntKind.i64 n))], [(some (HE.mk false (HB.exp none [(SV.slc 1 none b), (SV.int IntKind.i64 n1), (SV.int IntKind.u64 n2), (SV.int IntKind.i64 n3)]))), (some (HE.mk true (HB.rows (B.u8 l))))] => G_spec_l01Src_frames_Wr n b n1 n2 n3 l (fun s n19 n20 => K (AV.sc (SV.str s)) [(some (HE.mk false (HB.exp none [(SV.slc 1 none b), (SV.int IntKind.i64 n19), (SV.int IntKind.u64 n20), (SV.int IntKind.i64 n3)]))), (some (HE.mk true (HB.rows (B.u8 l))))])
 | _, _ => none
noncomputable def pa_spec_l01Src_tables_Wr__o_spec_l01Src_n_Wr (N : Nat) (G_spec_l01Src_n_Wr : ∀ {R : Type} (n : Int) (b : Bool) (n1 : Int) (n2 : Int) (n3 : Int) (l : List Int) (k : Int → Int → Int → Option R), Option R) {R : Type} (args : List AV) (H : Hp E) (K : AV → Hp E → Option R) : Option R :=
 match args, H with
 | [(AV.sc (SV.ptr 0 0 0)), (AV.sc (SV.int IntKind.i64 n))], [(some (HE.mk false (HB.exp none [(SV.slc 1 none b), (SV.int IntKind.i64 n1), (SV.int IntKind.u64 n2), (SV.int IntKind.i64 n3)]))), (some (HE.mk true (HB.rows (B.u8 l))))] => G_spec_l01Src_n_Wr n b n1 n2 n3 l (fun n4 n5 n6 => K (AV.sc (SV.int IntKind.i64 n4)) [(some (HE.mk false (HB.exp none [(SV.slc 1 none b), (SV.int IntKind.i64 n5), (SV.int IntKind.u64 n6), (SV.int IntKind.i64 n3)]))), (some (HE.mk true (HB.rows (B.u8 l))))])
 | _, _ => none
noncomputable def OA_spec_l01Src_tables_Wr (N : Nat) (G_spec_SetWord : ∀ {R : Type} (s : ByteArray) (n : Int) (n1 : Int) (k : ByteArray → Option R), Option R) (G_spec_l01Src_one_Wr : ∀ {R : Type} (n : Int) (b : Bool) (n1 : Int) (n2 : Int) (n3 : Int) (l : List Int) (k : Bool → Int → Int → Option R), Option R) (G_spec_MapPages_ww : ∀ {R : Type} (s : ByteArray) (n : Int) (b : Bool) (b1 : Bool) (l : List PageMap) (l1 : List Int) (k : Int → Int → ByteArray → Bool → (List PageMap) → (List Int) → (List Int) → Option R) (k_1 : ByteArray → Nat → Nat → Nat → Bool → (List PageMap) → (List Int) → (List Int) → Option R), Option R) (G_spec_MapPages_rw : ∀ {R : Type} (s : ByteArray) (n : Int) (b : Bool) (b1 : Bool) (l : List PageMap) (l1 : List Int) (k : Int → Int → ByteArray → Bool → (List PageMap) → (List Int) → (List Int) → Option R) (k_1 : ByteArray → Nat → Nat → Nat → Bool → (List PageMap) → (List Int) → (List Int) → Option R), Option R) (G_spec_l01Src_maps_Wr : ∀ {R : Type} (n : Int) (b : Bool) (n1 : Int) (n2 : Int) (n3 : Int) (l : List Int) (k : Bool → Int → Int → (List PageMap) → Option R), Option R) (G_spec_l01Src_frames_Wr : ∀ {R : Type} (n : Int) (b : Bool) (n1 : Int) (n2 : Int) (n3 : Int) (l : List Int) (k : ByteArray → Int → Int → Option R), Option R) (G_spec_l01Src_n_Wr : ∀ {R : Type} (n : Int) (b : Bool) (n1 : Int) (n2 : Int) (n3 : Int) (l : List Int) (k : Int → Int → Int → Option R), Option R) : Orc E := addFn 38 (pa_spec_l01Src_tables_Wr__o_spec_SetWord N G_spec_SetWord) (addFn 26 (pa_spec_l01Src_tables_Wr__o_spec_l01Src_one_Wr N G_spec_l01Src_one_Wr) (addFn 11 (pa_spec_l01Src_tables_Wr__oc_spec_l01Src_tables_Wr_11 N G_spec_MapPages_ww G_spec_MapPages_rw) (addFn 53 (pa_spec_l01Src_tables_Wr__o_spec_l01Src_maps_Wr N G_spec_l01Src_maps_Wr) (addFn 65 (pa_spec_l01Src_tables_Wr__o_spec_l01Src_frames_Wr N G_spec_l01Src_frames_Wr) (addFn 27 (pa_spec_l01Src_tables_Wr__o_spec_l01Src_n_Wr N G_spec_l01Src_n_Wr) (noFn))))))
theorem O_spec_l01Src_tables_Wr_ok (N : Nat) : OrcOk (O_spec_l01Src_tables_Wr N) := addFn_ok (o_spec_SetWord_ok N) (addFn_ok (o_spec_l01Src_one_Wr_ok N) (addFn_ok (oc_spec_l01Src_tables_Wr_11_ok N) (addFn_ok (o_spec_l01Src_maps_Wr_ok N) (addFn_ok (o_spec_l01Src_frames_Wr_ok N) (addFn_ok (o_spec_l01Src_n_Wr_ok N) (noFn_ok))))))
noncomputable def s_spec_l01Src_tables_Wr_0 (N : Nat) {R : Type} (s4 : ByteArray) (b6 : Bool) (b7 : Bool) (n15 : Int) (n16 : Int) (n17 : Int) (l10 : List Int) (l11 : List PageMap) (m3 : Nat) (m4 : Nat) (m5 : Nat) (ag : Nat → Nat → Nat → Option R)  (kN : ByteArray → Bool → Int → Int → Int → (List Int) → Option R) : Option R :=
 (cond (decide ((((m4 : Nat) : Int) > (0 : Int))))
 (cond (Nat.ble (m3 + m4) (List.length l11))
 (g_spec_MapPages_rw N s4 (1 : Int) b6 false (Go.Eng.seg l11 m3 m4) [(2 : Int), (3 : Int), (4 : Int), (5 : Int)] (fun n18 n19 s5 b8 l12 l13 l14 =>
 (cond (n18 == (0 : Int))
 (kN s5 b7 n15 n16 n17 l10)
 (cond ((decide (((0 : Int) ≤ (IntKind.wrap IntKind.i64 (((m4 : Nat) : Int) - (1 : Int)))))) && (decide (((IntKind.wrap IntKind.i64 (((m4 : Nat) : Int) - (1 : Int))) ≤ (((m4 + m5) : Nat) : Int)))))
 (ag (0 + m3) ((Int.toNat (IntKind.wrap IntKind.i64 (((m4 : Nat) : Int) - (1 : Int)))) - 0) ((m4 + m5) - (Int.toNat (IntKind.wrap IntKind.i64 (((m4 : Nat) : Int) - (1 : Int))))))
 none))) (fun s6 m6 m7 m8 b9 l15 l16 l17 =>
 (kN s6 b7 n15 n16 n17 l10)))
 none)
 (kN s4 b7 n15 n16 n17 l10))
noncomputable def ga_s_spec_l01Src_tables_Wr_0 (N : Nat) (G_spec_SetWord : ∀ {R : Type} (s : ByteArray) (n : Int) (n1 : Int) (k : ByteArray → Option R), Option R) (G_spec_l01Src_one_Wr : ∀ {R : Type} (n : Int) (b : Bool) (n1 : Int) (n2 : Int) (n3 : Int) (l : List Int) (k : Bool → Int → Int → Option R), Option R) (G_spec_MapPages_ww : ∀ {R : Type} (s : ByteArray) (n : Int) (b : Bool) (b1 : Bool) (l : List PageMap) (l1 : List Int) (k : Int → Int → ByteArray → Bool → (List PageMap) → (List Int) → (List Int) → Option R) (k_1 : ByteArray → Nat → Nat → Nat → Bool → (List PageMap) → (List Int) → (List Int) → Option R), Option R) (G_spec_MapPages_rw : ∀ {R : Type} (s : ByteArray) (n : Int) (b : Bool) (b1 : Bool) (l : List PageMap) (l1 : List Int) (k : Int → Int → ByteArray → Bool → (List PageMap) → (List Int) → (List Int) → Option R) (k_1 : ByteArray → Nat → Nat → Nat → Bool → (List PageMap) → (List Int) → (List Int) → Option R), Option R) (G_spec_l01Src_maps_Wr : ∀ {R : Type} (n : Int) (b : Bool) (n1 : Int) (n2 : Int) (n3 : Int) (l : List Int) (k : Bool → Int → Int → (List PageMap) → Option R), Option R) (G_spec_l01Src_frames_Wr : ∀ {R : Type} (n : Int) (b : Bool) (n1 : Int) (n2 : Int) (n3 : Int) (l : List Int) (k : ByteArray → Int → Int → Option R), Option R) (G_spec_l01Src_n_Wr : ∀ {R : Type} (n : Int) (b : Bool) (n1 : Int) (n2 : Int) (n3 : Int) (l : List Int) (k : Int → Int → Int → Option R), Option R) {R : Type} (s4 : ByteArray) (b6 : Bool) (b7 : Bool) (n15 : Int) (n16 : Int) (n17 : Int) (l10 : List Int) (l11 : List PageMap) (m3 : Nat) (m4 : Nat) (m5 : Nat) (ag : Nat → Nat → Nat → Option R)  (kN : ByteArray → Bool → Int → Int → Int → (List Int) → Option R) : Option R :=
 (cond (decide ((((m4 : Nat) : Int) > (0 : Int))))
 (cond (Nat.ble (m3 + m4) (List.length l11))
 (G_spec_MapPages_rw s4 (1 : Int) b6 false (Go.Eng.seg l11 m3 m4) [(2 : Int), (3 : Int), (4 : Int), (5 : Int)] (fun n18 n19 s5 b8 l12 l13 l14 =>
 (cond (n18 == (0 : Int))
 (kN s5 b7 n15 n16 n17 l10)
 (cond ((decide (((0 : Int) ≤ (IntKind.wrap IntKind.i64 (((m4 : Nat) : Int) - (1 : Int)))))) && (decide (((IntKind.wrap IntKind.i64 (((m4 : Nat) : Int) - (1 : Int))) ≤ (((m4 + m5) : Nat) : Int)))))
 (ag (0 + m3) ((Int.toNat (IntKind.wrap IntKind.i64 (((m4 : Nat) : Int) - (1 : Int)))) - 0) ((m4 + m5) - (Int.toNat (IntKind.wrap IntKind.i64 (((m4 : Nat) : Int) - (1 : Int))))))
 none))) (fun s6 m6 m7 m8 b9 l15 l16 l17 =>
 (kN s6 b7 n15 n16 n17 l10)))
 none)
 (kN s4 b7 n15 n16 n17 l10))
noncomputable def l_spec_l01Src_tables_Wr_0 (N : Nat) {R : Type} (s4 : ByteArray) (b6 : Bool) (b7 : Bool) (n15 : Int) (n16 : Int) (n17 : Int) (l10 : List Int) (l11 : List PageMap) (kN : ByteArray → Bool → Int → Int → Int → (List Int) → Option R) : Nat → Nat → Nat → Nat → Option R
 | 0, _, _, _ => none
 | f + 1, m3, m4, m5 => s_spec_l01Src_tables_Wr_0 N s4 b6 b7 n15 n16 n17 l10 l11 m3 m4 m5 (fun m3 m4 m5 => l_spec_l01Src_tables_Wr_0 N s4 b6 b7 n15 n16 n17 l10 l11 kN f m3 m4 m5)  kN
noncomputable def c_spec_l01Src_tables_Wr_0 (N : Nat) {R : Type} (s4 : ByteArray) (b6 : Bool) (b7 : Bool) (n15 : Int) (n16 : Int) (n17 : Int) (l10 : List Int) (l11 : List PageMap) (m3 : Nat) (m4 : Nat) (m5 : Nat) (kN : ByteArray → Bool → Int → Int → Int → (List Int) → Option R) : Option R := l_spec_l01Src_tables_Wr_0 N s4 b6 b7 n15 n16 n17 l10 l11 kN N m3 m4 m5
theorem ea_se_spec_l01Src_tables_Wr_0 (N : Nat) (G_spec_SetWord : ∀ {R : Type} (s : ByteArray) (n : Int) (n1 : Int) (k : ByteArray → Option R), Option R) (G_spec_l01Src_one_Wr : ∀ {R : Type} (n : Int) (b : Bool) (n1 : Int) (n2 : Int) (n3 : Int) (l : List Int) (k : Bool → Int → Int → Option R), Option R) (G_spec_MapPages_ww : ∀ {R : Type} (s : ByteArray) (n : Int) (b : Bool) (b1 : Bool) (l : List PageMap) (l1 : List Int) (k : Int → Int → ByteArray → Bool → (List PageMap) → (List Int) → (List Int) → Option R) (k_1 : ByteArray → Nat → Nat → Nat → Bool → (List PageMap) → (List Int) → (List Int) → Option R), Option R) (G_spec_MapPages_rw : ∀ {R : Type} (s : ByteArray) (n : Int) (b : Bool) (b1 : Bool) (l : List PageMap) (l1 : List Int) (k : Int → Int → ByteArray → Bool → (List PageMap) → (List Int) → (List Int) → Option R) (k_1 : ByteArray → Nat → Nat → Nat → Bool → (List PageMap) → (List Int) → (List Int) → Option R), Option R) (G_spec_l01Src_maps_Wr : ∀ {R : Type} (n : Int) (b : Bool) (n1 : Int) (n2 : Int) (n3 : Int) (l : List Int) (k : Bool → Int → Int → (List PageMap) → Option R), Option R) (G_spec_l01Src_frames_Wr : ∀ {R : Type} (n : Int) (b : Bool) (n1 : Int) (n2 : Int) (n3 : Int) (l : List Int) (k : ByteArray → Int → Int → Option R), Option R) (G_spec_l01Src_n_Wr : ∀ {R : Type} (n : Int) (b : Bool) (n1 : Int) (n2 : Int) (n3 : Int) (l : List Int) (k : Int → Int → Int → Option R), Option R) {R : Type} (s4 : ByteArray) (b6 : Bool) (b7 : Bool) (n15 : Int) (n16 : Int) (n17 : Int) (l10 : List Int) (l11 : List PageMap) (m3 : Nat) (m4 : Nat) (m5 : Nat) (AG : List (Option AV) → Hp E → Option R) (KL : Ex → List (Option AV) → Hp E → Option R) :
    iterStep (E := E) (OA_spec_l01Src_tables_Wr N G_spec_SetWord G_spec_l01Src_one_Wr G_spec_MapPages_ww G_spec_MapPages_rw G_spec_l01Src_maps_Wr G_spec_l01Src_frames_Wr G_spec_l01Src_n_Wr) (fun {R} => LI (noIt) 2 72 sl_spec_l01Src_tables_Wr (R := R)) J_spec_l01Src_tables_Wr 2 72 0 [0, 4, 5] [0, 4] (body Try.f28 0) AG KL [(some (AV.sc (SV.ptr 0 0 0))), (some (AV.sc (SV.str s4))), (some (AV.sc (SV.slc 2 (some (m3, (m4, m5))) b6)))] [(some (HE.mk false (HB.exp none [(SV.slc 1 none b7), (SV.int IntKind.i64 n15), (SV.int IntKind.u64 n16), (SV.int IntKind.i64 n17)]))), (some (HE.mk true (HB.rows (B.u8 l10)))), (some (HE.mk false (HB.rows (B.iPageMap l11))))] =
      ga_s_spec_l01Src_tables_Wr_0 N G_spec_SetWord G_spec_l01Src_one_Wr G_spec_MapPages_ww G_spec_MapPages_rw G_spec_l01Src_maps_Wr G_spec_l01Src_frames_Wr G_spec_l01Src_n_Wr s4 b6 b7 n15 n16 n17 l10 l11 m3 m4 m5 (fun m3 m4 m5 => AG [(some (AV.sc (SV.ptr 0 0 0))), (some (AV.sc (SV.str s4))), (some (AV.sc (SV.slc 2 (some (m3, (m4, m5))) b6)))] [(some (HE.mk false (HB.exp none [(SV.slc 1 none b7), (SV.int IntKind.i64 n15), (SV.int IntKind.u64 n16), (SV.int IntKind.i64 n17)]))), (some (HE.mk true (HB.rows (B.u8 l10)))), (some (HE.mk false (HB.rows (B.iPageMap l11))))])  (fun s16 b18 n74 n75 n76 l20 => KL Ex.normal [(some (AV.sc (SV.ptr 0 0 0))), (some (AV.sc (SV.str s16)))] [(some (HE.mk false (HB.exp none [(SV.slc 1 none b18), (SV.int IntKind.i64 n74), (SV.int IntKind.u64 n75), (SV.int IntKind.i64 n76)]))), (some (HE.mk true (HB.rows (B.u8 l20))))]) := by kernel_rfl
theorem se_spec_l01Src_tables_Wr_0 (N : Nat) {R : Type} (s4 : ByteArray) (b6 : Bool) (b7 : Bool) (n15 : Int) (n16 : Int) (n17 : Int) (l10 : List Int) (l11 : List PageMap) (m3 : Nat) (m4 : Nat) (m5 : Nat) (AG : List (Option AV) → Hp E → Option R) (KL : Ex → List (Option AV) → Hp E → Option R) :
    iterStep (E := E) (O_spec_l01Src_tables_Wr N) (fun {R} => LI (noIt) 2 72 sl_spec_l01Src_tables_Wr (R := R)) J_spec_l01Src_tables_Wr 2 72 0 [0, 4, 5] [0, 4] (body Try.f28 0) AG KL [(some (AV.sc (SV.ptr 0 0 0))), (some (AV.sc (SV.str s4))), (some (AV.sc (SV.slc 2 (some (m3, (m4, m5))) b6)))] [(some (HE.mk false (HB.exp none [(SV.slc 1 none b7), (SV.int IntKind.i64 n15), (SV.int IntKind.u64 n16), (SV.int IntKind.i64 n17)]))), (some (HE.mk true (HB.rows (B.u8 l10)))), (some (HE.mk false (HB.rows (B.iPageMap l11))))] =
      s_spec_l01Src_tables_Wr_0 N s4 b6 b7 n15 n16 n17 l10 l11 m3 m4 m5 (fun m3 m4 m5 => AG [(some (AV.sc (SV.ptr 0 0 0))), (some (AV.sc (SV.str s4))), (some (AV.sc (SV.slc 2 (some (m3, (m4, m5))) b6)))] [(some (HE.mk false (HB.exp none [(SV.slc 1 none b7), (SV.int IntKind.i64 n15), (SV.int IntKind.u64 n16), (SV.int IntKind.i64 n17)]))), (some (HE.mk true (HB.rows (B.u8 l10)))), (some (HE.mk false (HB.rows (B.iPageMap l11))))])  (fun s16 b18 n74 n75 n76 l20 => KL Ex.normal [(some (AV.sc (SV.ptr 0 0 0))), (some (AV.sc (SV.str s16)))] [(some (HE.mk false (HB.exp none [(SV.slc 1 none b18), (SV.int IntKind.i64 n74), (SV.int IntKind.u64 n75), (SV.int IntKind.i64 n76)]))), (some (HE.mk true (HB.rows (B.u8 l20))))]) := castPr (by kernel_rfl) (ea_se_spec_l01Src_tables_Wr_0 N (g_spec_SetWord N) (g_spec_l01Src_one_Wr N) (g_spec_MapPages_ww N) (g_spec_MapPages_rw N) (g_spec_l01Src_maps_Wr N) (g_spec_l01Src_frames_Wr N) (g_spec_l01Src_n_Wr N) s4 b6 b7 n15 n16 n17 l10 l11 m3 m4 m5 AG KL)
theorem le_spec_l01Src_tables_Wr_0 (N : Nat) {R : Type} (s4 : ByteArray) (b6 : Bool) (b7 : Bool) (n15 : Int) (n16 : Int) (n17 : Int) (l10 : List Int) (l11 : List PageMap) (KL : Ex → List (Option AV) → Hp E → Option R) : ∀ (f : Nat), ∀ (m3 : Nat) (m4 : Nat) (m5 : Nat), iterK (E := E) (O_spec_l01Src_tables_Wr N) (fun {R} => LI (noIt) 2 72 sl_spec_l01Src_tables_Wr (R := R)) J_spec_l01Src_tables_Wr 2 72 0 [0, 4, 5] [0, 4] (body Try.f28 0) f [(some (AV.sc (SV.ptr 0 0 0))), (some (AV.sc (SV.str s4))), (some (AV.sc (SV.slc 2 (some (m3, (m4, m5))) b6)))] [(some (HE.mk false (HB.exp none [(SV.slc 1 none b7), (SV.int IntKind.i64 n15), (SV.int IntKind.u64 n16), (SV.int IntKind.i64 n17)]))), (some (HE.mk true (HB.rows (B.u8 l10)))), (some (HE.mk false (HB.rows (B.iPageMap l11))))] KL = l_spec_l01Src_tables_Wr_0 N s4 b6 b7 n15 n16 n17 l10 l11 (fun s16 b18 n74 n75 n76 l20 => KL Ex.normal [(some (AV.sc (SV.ptr 0 0 0))), (some (AV.sc (SV.str s16)))] [(some (HE.mk false (HB.exp none [(SV.slc 1 none b18), (SV.int IntKind.i64 n74), (SV.int IntKind.u64 n75), (SV.int IntKind.i64 n76)]))), (some (HE.mk true (HB.rows (B.u8 l20))))]) f m3 m4 m5 := by
  intro f
  induction f with
  | zero => intros; rfl
  | succ f ih =>
    intro m3 m4 m5
    rw [iterK_succ, se_spec_l01Src_tables_Wr_0]
    exact (congrArg (fun z0 => s_spec_l01Src_tables_Wr_0 N s4 b6 b7 n15 n16 n17 l10 l11 m3 m4 m5 z0 (fun s16 b18 n74 n75 n76 l20 => KL Ex.normal [(some (AV.sc (SV.ptr 0 0 0))), (some (AV.sc (SV.str s16)))] [(some (HE.mk false (HB.exp none [(SV.slc 1 none b18), (SV.int IntKind.i64 n74), (SV.int IntKind.u64 n75), (SV.int IntKind.i64 n76)]))), (some (HE.mk true (HB.rows (B.u8 l20))))])) (funext fun m3 => funext fun m4 => funext fun m5 => ih m3 m4 m5))
noncomputable def s_spec_l01Src_tables_Wr_0b1 (N : Nat) {R : Type} (s1 : ByteArray) (b2 : Bool) (b3 : Bool) (n10 : Int) (n11 : Int) (n12 : Int) (l2 : List Int) (l3 : List PageMap)  (ag1 : ByteArray → Nat → Nat → Nat → Bool → Bool → Int → Int → Int → (List Int) → (List PageMap) → Option R) (kNb1 : ByteArray → Option R) : Option R :=
 (cond (decide (((((List.length l3) : Nat) : Int) > (0 : Int))))
 (g_spec_MapPages_ww N s1 (1 : Int) b2 false l3 [(2 : Int), (3 : Int), (4 : Int), (5 : Int)] (fun n13 n14 s2 b4 l4 l5 l6 =>
 (cond (n13 == (0 : Int))
 (kNb1 s2)
 (cond ((decide (((0 : Int) ≤ (IntKind.wrap IntKind.i64 ((((List.length l4) : Nat) : Int) - (1 : Int)))))) && (decide (((IntKind.wrap IntKind.i64 ((((List.length l4) : Nat) : Int) - (1 : Int))) ≤ (((List.length l4) : Nat) : Int)))))
 (ag1 s1 0 ((Int.toNat (IntKind.wrap IntKind.i64 ((((List.length l4) : Nat) : Int) - (1 : Int)))) - 0) ((List.length l4) - (Int.toNat (IntKind.wrap IntKind.i64 ((((List.length l4) : Nat) : Int) - (1 : Int))))) b2 b3 n10 n11 n12 l2 l4)
 none))) (fun s3 m m1 m2 b5 l7 l8 l9 =>
 (kNb1 s3)))
 (kNb1 s1))
noncomputable def ga_s_spec_l01Src_tables_Wr_0b1 (N : Nat) (G_spec_SetWord : ∀ {R : Type} (s : ByteArray) (n : Int) (n1 : Int) (k : ByteArray → Option R), Option R) (G_spec_l01Src_one_Wr : ∀ {R : Type} (n : Int) (b : Bool) (n1 : Int) (n2 : Int) (n3 : Int) (l : List Int) (k : Bool → Int → Int → Option R), Option R) (G_spec_MapPages_ww : ∀ {R : Type} (s : ByteArray) (n : Int) (b : Bool) (b1 : Bool) (l : List PageMap) (l1 : List Int) (k : Int → Int → ByteArray → Bool → (List PageMap) → (List Int) → (List Int) → Option R) (k_1 : ByteArray → Nat → Nat → Nat → Bool → (List PageMap) → (List Int) → (List Int) → Option R), Option R) (G_spec_MapPages_rw : ∀ {R : Type} (s : ByteArray) (n : Int) (b : Bool) (b1 : Bool) (l : List PageMap) (l1 : List Int) (k : Int → Int → ByteArray → Bool → (List PageMap) → (List Int) → (List Int) → Option R) (k_1 : ByteArray → Nat → Nat → Nat → Bool → (List PageMap) → (List Int) → (List Int) → Option R), Option R) (G_spec_l01Src_maps_Wr : ∀ {R : Type} (n : Int) (b : Bool) (n1 : Int) (n2 : Int) (n3 : Int) (l : List Int) (k : Bool → Int → Int → (List PageMap) → Option R), Option R) (G_spec_l01Src_frames_Wr : ∀ {R : Type} (n : Int) (b : Bool) (n1 : Int) (n2 : Int) (n3 : Int) (l : List Int) (k : ByteArray → Int → Int → Option R), Option R) (G_spec_l01Src_n_Wr : ∀ {R : Type} (n : Int) (b : Bool) (n1 : Int) (n2 : Int) (n3 : Int) (l : List Int) (k : Int → Int → Int → Option R), Option R) {R : Type} (s1 : ByteArray) (b2 : Bool) (b3 : Bool) (n10 : Int) (n11 : Int) (n12 : Int) (l2 : List Int) (l3 : List PageMap)  (ag1 : ByteArray → Nat → Nat → Nat → Bool → Bool → Int → Int → Int → (List Int) → (List PageMap) → Option R) (kNb1 : ByteArray → Option R) : Option R :=
 (cond (decide (((((List.length l3) : Nat) : Int) > (0 : Int))))
 (G_spec_MapPages_ww s1 (1 : Int) b2 false l3 [(2 : Int), (3 : Int), (4 : Int), (5 : Int)] (fun n13 n14 s2 b4 l4 l5 l6 =>
 (cond (n13 == (0 : Int))
 (kNb1 s2)
 (cond ((decide (((0 : Int) ≤ (IntKind.wrap IntKind.i64 ((((List.length l4) : Nat) : Int) - (1 : Int)))))) && (decide (((IntKind.wrap IntKind.i64 ((((List.length l4) : Nat) : Int) - (1 : Int))) ≤ (((List.length l4) : Nat) : Int)))))
 (ag1 s1 0 ((Int.toNat (IntKind.wrap IntKind.i64 ((((List.length l4) : Nat) : Int) - (1 : Int)))) - 0) ((List.length l4) - (Int.toNat (IntKind.wrap IntKind.i64 ((((List.length l4) : Nat) : Int) - (1 : Int))))) b2 b3 n10 n11 n12 l2 l4)
 none))) (fun s3 m m1 m2 b5 l7 l8 l9 =>
 (kNb1 s3)))
 (kNb1 s1))
noncomputable def l_spec_l01Src_tables_Wr_0b1 (N : Nat) {R : Type} (s1 : ByteArray) (b2 : Bool) (b3 : Bool) (n10 : Int) (n11 : Int) (n12 : Int) (l2 : List Int) (l3 : List PageMap) (kNb1 : ByteArray → Option R) (kN : ByteArray → Bool → Int → Int → Int → (List Int) → Option R) : Nat → Option R
 | 0 => none
 | f + 1 => s_spec_l01Src_tables_Wr_0b1 N s1 b2 b3 n10 n11 n12 l2 l3  (fun s4 m3 m4 m5 b6 b7 n15 n16 n17 l10 l11 => l_spec_l01Src_tables_Wr_0 N s4 b6 b7 n15 n16 n17 l10 l11 kN f m3 m4 m5) kNb1
noncomputable def c_spec_l01Src_tables_Wr_0b1 (N : Nat) {R : Type} (s1 : ByteArray) (b2 : Bool) (b3 : Bool) (n10 : Int) (n11 : Int) (n12 : Int) (l2 : List Int) (l3 : List PageMap)  (kNb1 : ByteArray → Option R) (kN : ByteArray → Bool → Int → Int → Int → (List Int) → Option R) : Option R := l_spec_l01Src_tables_Wr_0b1 N s1 b2 b3 n10 n11 n12 l2 l3 kNb1 kN N 
theorem ea_se_spec_l01Src_tables_Wr_0b1 (N : Nat) (G_spec_SetWord : ∀ {R : Type} (s : ByteArray) (n : Int) (n1 : Int) (k : ByteArray → Option R), Option R) (G_spec_l01Src_one_Wr : ∀ {R : Type} (n : Int) (b : Bool) (n1 : Int) (n2 : Int) (n3 : Int) (l : List Int) (k : Bool → Int → Int → Option R), Option R) (G_spec_MapPages_ww : ∀ {R : Type} (s : ByteArray) (n : Int) (b : Bool) (b1 : Bool) (l : List PageMap) (l1 : List Int) (k : Int → Int → ByteArray → Bool → (List PageMap) → (List Int) → (List Int) → Option R) (k_1 : ByteArray → Nat → Nat → Nat → Bool → (List PageMap) → (List Int) → (List Int) → Option R), Option R) (G_spec_MapPages_rw : ∀ {R : Type} (s : ByteArray) (n : Int) (b : Bool) (b1 : Bool) (l : List PageMap) (l1 : List Int) (k : Int → Int → ByteArray → Bool → (List PageMap) → (List Int) → (List Int) → Option R) (k_1 : ByteArray → Nat → Nat → Nat → Bool → (List PageMap) → (List Int) → (List Int) → Option R), Option R) (G_spec_l01Src_maps_Wr : ∀ {R : Type} (n : Int) (b : Bool) (n1 : Int) (n2 : Int) (n3 : Int) (l : List Int) (k : Bool → Int → Int → (List PageMap) → Option R), Option R) (G_spec_l01Src_frames_Wr : ∀ {R : Type} (n : Int) (b : Bool) (n1 : Int) (n2 : Int) (n3 : Int) (l : List Int) (k : ByteArray → Int → Int → Option R), Option R) (G_spec_l01Src_n_Wr : ∀ {R : Type} (n : Int) (b : Bool) (n1 : Int) (n2 : Int) (n3 : Int) (l : List Int) (k : Int → Int → Int → Option R), Option R) {R : Type} (s1 : ByteArray) (b2 : Bool) (b3 : Bool) (n10 : Int) (n11 : Int) (n12 : Int) (l2 : List Int) (l3 : List PageMap)  (AG : List (Option AV) → Hp E → Option R) (KL : Ex → List (Option AV) → Hp E → Option R) :
    iterStep (E := E) (OA_spec_l01Src_tables_Wr N G_spec_SetWord G_spec_l01Src_one_Wr G_spec_MapPages_ww G_spec_MapPages_rw G_spec_l01Src_maps_Wr G_spec_l01Src_frames_Wr G_spec_l01Src_n_Wr) (fun {R} => LI (noIt) 2 72 sl_spec_l01Src_tables_Wr (R := R)) J_spec_l01Src_tables_Wr 2 72 0 [0, 4, 5] [0, 4] (body Try.f28 0) AG KL [(some (AV.sc (SV.ptr 0 0 0))), (some (AV.sc (SV.str s1))), (some (AV.sc (SV.slc 2 none b2)))] [(some (HE.mk false (HB.exp none [(SV.slc 1 none b3), (SV.int IntKind.i64 n10), (SV.int IntKind.u64 n11), (SV.int IntKind.i64 n12)]))), (some (HE.mk true (HB.rows (B.u8 l2)))), (some (HE.mk false (HB.rows (B.iPageMap l3))))] =
      ga_s_spec_l01Src_tables_Wr_0b1 N G_spec_SetWord G_spec_l01Src_one_Wr G_spec_MapPages_ww G_spec_MapPages_rw G_spec_l01Src_maps_Wr G_spec_l01Src_frames_Wr G_spec_l01Src_n_Wr s1 b2 b3 n10 n11 n12 l2 l3  (fun s4 m3 m4 m5 b6 b7 n15 n16 n17 l10 l11 => AG [(some (AV.sc (SV.ptr 0 0 0))), (some (AV.sc (SV.str s4))), (some (AV.sc (SV.slc 2 (some (m3, (m4, m5))) b6)))] [(some (HE.mk false (HB.exp none [(SV.slc 1 none b7), (SV.int IntKind.i64 n15), (SV.int IntKind.u64 n16), (SV.int IntKind.i64 n17)]))), (some (HE.mk true (HB.rows (B.u8 l10)))), (some (HE.mk false (HB.rows (B.iPageMap l11))))]) (fun s17 => KL Ex.normal [(some (AV.sc (SV.ptr 0 0 0))), (some (AV.sc (SV.str s17)))] [(some (HE.mk false (HB.exp none [(SV.slc 1 none b3), (SV.int IntKind.i64 n10), (SV.int IntKind.u64 n11), (SV.int IntKind.i64 n12)]))), (some (HE.mk true (HB.rows (B.u8 l2))))]) := by kernel_rfl
theorem se_spec_l01Src_tables_Wr_0b1 (N : Nat) {R : Type} (s1 : ByteArray) (b2 : Bool) (b3 : Bool) (n10 : Int) (n11 : Int) (n12 : Int) (l2 : List Int) (l3 : List PageMap)  (AG : List (Option AV) → Hp E → Option R) (KL : Ex → List (Option AV) → Hp E → Option R) :
    iterStep (E := E) (O_spec_l01Src_tables_Wr N) (fun {R} => LI (noIt) 2 72 sl_spec_l01Src_tables_Wr (R := R)) J_spec_l01Src_tables_Wr 2 72 0 [0, 4, 5] [0, 4] (body Try.f28 0) AG KL [(some (AV.sc (SV.ptr 0 0 0))), (some (AV.sc (SV.str s1))), (some (AV.sc (SV.slc 2 none b2)))] [(some (HE.mk false (HB.exp none [(SV.slc 1 none b3), (SV.int IntKind.i64 n10), (SV.int IntKind.u64 n11), (SV.int IntKind.i64 n12)]))), (some (HE.mk true (HB.rows (B.u8 l2)))), (some (HE.mk false (HB.rows (B.iPageMap l3))))] =
      s_spec_l01Src_tables_Wr_0b1 N s1 b2 b3 n10 n11 n12 l2 l3  (fun s4 m3 m4 m5 b6 b7 n15 n16 n17 l10 l11 => AG [(some (AV.sc (SV.ptr 0 0 0))), (some (AV.sc (SV.str s4))), (some (AV.sc (SV.slc 2 (some (m3, (m4, m5))) b6)))] [(some (HE.mk false (HB.exp none [(SV.slc 1 none b7), (SV.int IntKind.i64 n15), (SV.int IntKind.u64 n16), (SV.int IntKind.i64 n17)]))), (some (HE.mk true (HB.rows (B.u8 l10)))), (some (HE.mk false (HB.rows (B.iPageMap l11))))]) (fun s17 => KL Ex.normal [(some (AV.sc (SV.ptr 0 0 0))), (some (AV.sc (SV.str s17)))] [(some (HE.mk false (HB.exp none [(SV.slc 1 none b3), (SV.int IntKind.i64 n10), (SV.int IntKind.u64 n11), (SV.int IntKind.i64 n12)]))), (some (HE.mk true (HB.rows (B.u8 l2))))]) := castPr (by kernel_rfl) (ea_se_spec_l01Src_tables_Wr_0b1 N (g_spec_SetWord N) (g_spec_l01Src_one_Wr N) (g_spec_MapPages_ww N) (g_spec_MapPages_rw N) (g_spec_l01Src_maps_Wr N) (g_spec_l01Src_frames_Wr N) (g_spec_l01Src_n_Wr N) s1 b2 b3 n10 n11 n12 l2 l3 AG KL)
theorem le_spec_l01Src_tables_Wr_0b1 (N : Nat) {R : Type} (s1 : ByteArray) (b2 : Bool) (b3 : Bool) (n10 : Int) (n11 : Int) (n12 : Int) (l2 : List Int) (l3 : List PageMap) (KL : Ex → List (Option AV) → Hp E → Option R) : ∀ (f : Nat), iterK (E := E) (O_spec_l01Src_tables_Wr N) (fun {R} => LI (noIt) 2 72 sl_spec_l01Src_tables_Wr (R := R)) J_spec_l01Src_tables_Wr 2 72 0 [0, 4, 5] [0, 4] (body Try.f28 0) f [(some (AV.sc (SV.ptr 0 0 0))), (some (AV.sc (SV.str s1))), (some (AV.sc (SV.slc 2 none b2)))] [(some (HE.mk false (HB.exp none [(SV.slc 1 none b3), (SV.int IntKind.i64 n10), (SV.int IntKind.u64 n11), (SV.int IntKind.i64 n12)]))), (some (HE.mk true (HB.rows (B.u8 l2)))), (some (HE.mk false (HB.rows (B.iPageMap l3))))] KL = l_spec_l01Src_tables_Wr_0b1 N s1 b2 b3 n10 n11 n12 l2 l3 (fun s17 => KL Ex.normal [(some (AV.sc (SV.ptr 0 0 0))), (some (AV.sc (SV.str s17)))] [(some (HE.mk false (HB.exp none [(SV.slc 1 none b3), (SV.int IntKind.i64 n10), (SV.int IntKind.u64 n11), (SV.int IntKind.i64 n12)]))), (some (HE.mk true (HB.rows (B.u8 l2))))]) (fun s18 b19 n77 n78 n79 l21 => KL Ex.normal [(some (AV.sc (SV.ptr 0 0 0))), (some (AV.sc (SV.str s18)))] [(some (HE.mk false (HB.exp none [(SV.slc 1 none b19), (SV.int IntKind.i64 n77), (SV.int IntKind.u64 n78), (SV.int IntKind.i64 n79)]))), (some (HE.mk true (HB.rows (B.u8 l21))))]) f  := by
  intro f
  induction f with
  | zero => intros; rfl
  | succ f ih =>
    rw [iterK_succ, se_spec_l01Src_tables_Wr_0b1]
    exact (congrArg (fun z0 => s_spec_l01Src_tables_Wr_0b1 N s1 b2 b3 n10 n11 n12 l2 l3  z0 (fun s17 => KL Ex.normal [(some (AV.sc (SV.ptr 0 0 0))), (some (AV.sc (SV.str s17)))] [(some (HE.mk false (HB.exp none [(SV.slc 1 none b3), (SV.int IntKind.i64 n10), (SV.int IntKind.u64 n11), (SV.int IntKind.i64 n12)]))), (some (HE.mk true (HB.rows (B.u8 l2))))])) (funext fun s4 => funext fun m3 => funext fun m4 => funext fun m5 => funext fun b6 => funext fun b7 => funext fun n15 => funext fun n16 => funext fun n17 => funext fun l10 => funext fun l11 => le_spec_l01Src_tables_Wr_0 N s4 b6 b7 n15 n16 n17 l10 l11 KL f m3 m4 m5))
noncomputable def i_spec_l01Src_tables_Wr_0 (N : Nat) {R : Type} (vs : List (Option AV)) (H : Hp E) (KL : Ex → List (Option AV) → Hp E → Option R) : Option R :=
 match vs, H with
 | [(some (AV.sc (SV.ptr 0 0 0))), (some (AV.sc (SV.str s1))), (some (AV.sc (SV.slc 2 none b2)))], [(some (HE.mk false (HB.exp none [(SV.slc 1 none b3), (SV.int IntKind.i64 n10), (SV.int IntKind.u64 n11), (SV.int IntKind.i64 n12)]))), (some (HE.mk true (HB.rows (B.u8 l2)))), (some (HE.mk false (HB.rows (B.iPageMap l3))))] => c_spec_l01Src_tables_Wr_0b1 N s1 b2 b3 n10 n11 n12 l2 l3  (fun s19 => KL Ex.normal [(some (AV.sc (SV.ptr 0 0 0))), (some (AV.sc (SV.str s19)))] [(some (HE.mk false (HB.exp none [(SV.slc 1 none b3), (SV.int IntKind.i64 n10), (SV.int IntKind.u64 n11), (SV.int IntKind.i64 n12)]))), (some (HE.mk true (HB.rows (B.u8 l2))))]) (fun s20 b20 n80 n81 n82 l22 => KL Ex.normal [(some (AV.sc (SV.ptr 0 0 0))), (some (AV.sc (SV.str s20)))] [(some (HE.mk false (HB.exp none [(SV.slc 1 none b20), (SV.int IntKind.i64 n80), (SV.int IntKind.u64 n81), (SV.int IntKind.i64 n82)]))), (some (HE.mk true (HB.rows (B.u8 l22))))])
 | _, _ => none
noncomputable def IT_spec_l01Src_tables_Wr_0 (N : Nat) : Its E := addIt 0 (i_spec_l01Src_tables_Wr_0 N) (noIt)
theorem IT_spec_l01Src_tables_Wr_0_ok (N : Nat) : ItOk (IT_spec_l01Src_tables_Wr_0 N) 2 72 sl_spec_l01Src_tables_Wr (lsB Try.f28 [0]) :=
  addItB_ok (inner := []) ok (O_spec_l01Src_tables_Wr_ok N) (jn_ok _ _ _) (noIt_ok) rfl (by kernel_rfl) rfl fun vs H KL r h => by
    unfold i_spec_l01Src_tables_Wr_0 at h
    split at h
    · exact ⟨_, (le_spec_l01Src_tables_Wr_0b1 N _ _ _ _ _ _ _ _ KL N).trans h⟩
    · cases h
noncomputable def g_spec_l01Src_tables_Wr (N : Nat) {R : Type} (b : Bool) (n : Int) (n1 : Int) (n2 : Int) (l : List Int) (k : ByteArray → Bool → Int → Int → Int → (List Int) → Option R) : Option R :=
 (g_spec_l01Src_n_Wr N (3 : Int) b n n1 n2 l fun n3 n4 n5 =>
 (cond ((decide (((0 : Int) ≤ n3))) && (decide ((n3 < (3 : Int)))))
 (elemK [(8 : Int), (12 : Int), (40 : Int)] (Int.toNat n3) fun x =>
 (g_spec_l01Src_frames_Wr N x b n4 n5 n2 l fun s n6 n7 =>
 (cond (decide (((256 : Int) ≤ (((ByteArray.size s) : Nat) : Int))))
 (cond (Nat.ble ((ByteArray.size (ByteArray.extract s 0 (Int.toNat (256 : Int)))) + 256) 9223372036854775807)
 (cond ((decide (((512 : Int) ≤ (((ByteArray.size s) : Nat) : Int)))) && (decide (((((ByteArray.size s) : Nat) : Int) ≤ (((ByteArray.size s) : Nat) : Int)))))
 (cond (Nat.ble ((ByteArray.size ((ByteArray.extract s 0 (Int.toNat (256 : Int))) ++ (Go.Eng.toBytes (Go.Eng.seg (List.replicate 256 (0 : Int)) 0 256)))) + (ByteArray.size (ByteArray.extract s 512 (Int.toNat (((ByteArray.size s) : Nat) : Int))))) 9223372036854775807)
 (g_spec_l01Src_maps_Wr N x b n6 n7 n2 l fun b1 n8 n9 l1 =>
 (c_spec_l01Src_tables_Wr_0b1 N (((ByteArray.extract s 0 (Int.toNat (256 : Int))) ++ (Go.Eng.toBytes (Go.Eng.seg (List.replicate 256 (0 : Int)) 0 256))) ++ (ByteArray.extract s 512 (Int.toNat (((ByteArray.size s) : Nat) : Int)))) b1 b n8 n9 n2 l l1 (fun s7 =>
 (g_spec_l01Src_one_Wr N (6 : Int) b n8 n9 n2 l fun b10 n20 n21 =>
 (cond b10
 (g_spec_l01Src_n_Wr N (3 : Int) b n20 n21 n2 l fun n22 n23 n24 =>
 (g_spec_l01Src_n_Wr N (4 : Int) b n23 n24 n2 l fun n25 n26 n27 =>
 (cond ((decide (((0 : Int) ≤ n25))) && (decide ((n25 < (4 : Int)))))
 (elemK [(8451 : Int), (65281 : Int), (16387 : Int), (2147483649 : Int)] (Int.toNat n25) fun x1 =>
 (g_spec_SetWord N s7 (IntKind.wrap IntKind.i64 ((256 : Int) + (IntKind.wrap IntKind.i64 ((4 : Int) * n22)))) x1 fun s8 =>
 (g_spec_l01Src_one_Wr N (6 : Int) b n26 n27 n2 l fun b11 n28 n29 =>
 (cond b11
 (g_spec_l01Src_n_Wr N (3 : Int) b n28 n29 n2 l fun n30 n31 n32 =>
 (g_spec_l01Src_n_Wr N (4 : Int) b n31 n32 n2 l fun n33 n34 n35 =>
 (cond ((decide (((0 : Int) ≤ n33))) && (decide ((n33 < (4 : Int)))))
 (elemK [(1 : Int), (76819 : Int), (2 : Int), (0 : Int)] (Int.toNat n33) fun x2 =>
 (g_spec_SetWord N s8 (IntKind.wrap IntKind.i64 ((512 : Int) + (IntKind.wrap IntKind.i64 ((4 : Int) * n30)))) x2 fun s9 =>
 (k s9 b n34 n35 n2 l)))
 none)))
 (k s8 b n28 n29 n2 l)))))
 none)))
 (g_spec_l01Src_one_Wr N (6 : Int) b n20 n21 n2 l fun b12 n36 n37 =>
 (cond b12
 (g_spec_l01Src_n_Wr N (3 : Int) b n36 n37 n2 l fun n38 n39 n40 =>
 (g_spec_l01Src_n_Wr N (4 : Int) b n39 n40 n2 l fun n41 n42 n43 =>
 (cond ((decide (((0 : Int) ≤ n41))) && (decide ((n41 < (4 : Int)))))
 (elemK [(1 : Int), (76819 : Int), (2 : Int), (0 : Int)] (Int.toNat n41) fun x3 =>
 (g_spec_SetWord N s7 (IntKind.wrap IntKind.i64 ((512 : Int) + (IntKind.wrap IntKind.i64 ((4 : Int) * n38)))) x3 fun s10 =>
 (k s10 b n42 n43 n2 l)))
 none)))
 (k s7 b n36 n37 n2 l)))))) (fun s11 b13 n44 n45 n46 l18 =>
 (g_spec_l01Src_one_Wr N (6 : Int) b13 n44 n45 n46 l18 fun b14 n47 n48 =>
 (cond b14
 (g_spec_l01Src_n_Wr N (3 : Int) b13 n47 n48 n46 l18 fun n49 n50 n51 =>
 (g_spec_l01Src_n_Wr N (4 : Int) b13 n50 n51 n46 l18 fun n52 n53 n54 =>
 (cond ((decide (((0 : Int) ≤ n52))) && (decide ((n52 < (4 : Int)))))
 (elemK [(8451 : Int), (65281 : Int), (16387 : Int), (2147483649 : Int)] (Int.toNat n52) fun x4 =>
 (g_spec_SetWord N s11 (IntKind.wrap IntKind.i64 ((256 : Int) + (IntKind.wrap IntKind.i64 ((4 : Int) * n49)))) x4 fun s12 =>
 (g_spec_l01Src_one_Wr N (6 : Int) b13 n53 n54 n46 l18 fun b15 n55 n56 =>
 (cond b15
 (g_spec_l01Src_n_Wr N (3 : Int) b13 n55 n56 n46 l18 fun n57 n58 n59 =>
 (g_spec_l01Src_n_Wr N (4 : Int) b13 n58 n59 n46 l18 fun n60 n61 n62 =>
 (cond ((decide (((0 : Int) ≤ n60))) && (decide ((n60 < (4 : Int)))))
 (elemK [(1 : Int), (76819 : Int), (2 : Int), (0 : Int)] (Int.toNat n60) fun x5 =>
 (g_spec_SetWord N s12 (IntKind.wrap IntKind.i64 ((512 : Int) + (IntKind.wrap IntKind.i64 ((4 : Int) * n57)))) x5 fun s13 =>
 (k s13 b13 n61 n62 n46 l18)))
 none)))
 (k s12 b13 n55 n56 n46 l18)))))
 none)))
 (g_spec_l01Src_one_Wr N (6 : Int) b13 n47 n48 n46 l18 fun b16 n63 n64 =>
 (cond b16
 (g_spec_l01Src_n_Wr N (3 : Int) b13 n63 n64 n46 l18 fun n65 n66 n67 =>
 (g_spec_l01Src_n_Wr N (4 : Int) b13 n66 n67 n46 l18 fun n68 n69 n70 =>
 (cond ((decide (((0 : Int) ≤ n68))) && (decide ((n68 < (4 : Int)))))
 (elemK [(1 : Int), (76819 : Int), (2 : Int), (0 : Int)] (Int.toNat n68) fun x6 =>
 (g_spec_SetWord N s11 (IntKind.wrap IntKind.i64 ((512 : Int) + (IntKind.wrap IntKind.i64 ((4 : Int) * n65)))) x6 fun s14 =>
 (k s14 b13 n69 n70 n46 l18)))
 none)))
 (k s11 b13 n63 n64 n46 l18))))))))
 none)
 none)
 none)
 none)))
 none))
noncomputable def ga_g_spec_l01Src_tables_Wr (N : Nat) (G_spec_SetWord : ∀ {R : Type} (s : ByteArray) (n : Int) (n1 : Int) (k : ByteArray → Option R), Option R) (G_spec_l01Src_one_Wr : ∀ {R : Type} (n : Int) (b : Bool) (n1 : Int) (n2 : Int) (n3 : Int) (l : List Int) (k : Bool → Int → Int → Option R), Option R) (G_spec_MapPages_ww : ∀ {R : Type} (s : ByteArray) (n : Int) (b : Bool) (b1 : Bool) (l : List PageMap) (l1 : List Int) (k : Int → Int → ByteArray → Bool → (List PageMap) → (List Int) → (List Int) → Option R) (k_1 : ByteArray → Nat → Nat → Nat → Bool → (List PageMap) → (List Int) → (List Int) → Option R), Option R) (G_spec_MapPages_rw : ∀ {R : Type} (s : ByteArray) (n : Int) (b : Bool) (b1 : Bool) (l : List PageMap) (l1 : List Int) (k : Int → Int → ByteArray → Bool → (List PageMap) → (List Int) → (List Int) → Option R) (k_1 : ByteArray → Nat → Nat → Nat → Bool → (List PageMap) → (List Int) → (List Int) → Option R), Option R) (G_spec_l01Src_maps_Wr : ∀ {R : Type} (n : Int) (b : Bool) (n1 : Int) (n2 : Int) (n3 : Int) (l : List Int) (k : Bool → Int → Int → (List PageMap) → Option R), Option R) (G_spec_l01Src_frames_Wr : ∀ {R : Type} (n : Int) (b : Bool) (n1 : Int) (n2 : Int) (n3 : Int) (l : List Int) (k : ByteArray → Int → Int → Option R), Option R) (G_spec_l01Src_n_Wr : ∀ {R : Type} (n : Int) (b : Bool) (n1 : Int) (n2 : Int) (n3 : Int) (l : List Int) (k : Int → Int → Int → Option R), Option R) {R : Type} (b : Bool) (n : Int) (n1 : Int) (n2 : Int) (l : List Int) (k : ByteArray → Bool → Int → Int → Int → (List Int) → Option R) : Option R :=
 (G_spec_l01Src_n_Wr (3 : Int) b n n1 n2 l fun n3 n4 n5 =>
 (cond ((decide (((0 : Int) ≤ n3))) && (decide ((n3 < (3 : Int)))))
 (elemK [(8 : Int), (12 : Int), (40 : Int)] (Int.toNat n3) fun x =>
 (G_spec_l01Src_frames_Wr x b n4 n5 n2 l fun s n6 n7 =>
 (cond (decide (((256 : Int) ≤ (((ByteArray.size s) : Nat) : Int))))
 (cond (Nat.ble ((ByteArray.size (ByteArray.extract s 0 (Int.toNat (256 : Int)))) + 256) 9223372036854775807)
 (cond ((decide (((512 : Int) ≤ (((ByteArray.size s) : Nat) : Int)))) && (decide (((((ByteArray.size s) : Nat) : Int) ≤ (((ByteArray.size s) : Nat) : Int)))))
 (cond (Nat.ble ((ByteArray.size ((ByteArray.extract s 0 (Int.toNat (256 : Int))) ++ (Go.Eng.toBytes (Go.Eng.seg (List.replicate 256 (0 : Int)) 0 256)))) + (ByteArray.size (ByteArray.extract s 512 (Int.toNat (((ByteArray.size s) : Nat) : Int))))) 9223372036854775807)
 (G_spec_l01Src_maps_Wr x b n6 n7 n2 l fun b1 n8 n9 l1 =>
 (c_spec_l01Src_tables_Wr_0b1 N (((ByteArray.extract s 0 (Int.toNat (256 : Int))) ++ (Go.Eng.toBytes (Go.Eng.seg (List.replicate 256 (0 : Int)) 0 256))) ++ (ByteArray.extract s 512 (Int.toNat (((ByteArray.size s) : Nat) : Int)))) b1 b n8 n9 n2 l l1 (fun s7 =>
 (G_spec_l01Src_one_Wr (6 : Int) b n8 n9 n2 l fun b10 n20 n21 =>
 (cond b10
 (G_spec_l01Src_n_Wr (3 : Int) b n20 n21 n2 l fun n22 n23 n24 =>
 (G_spec_l01Src_n_Wr (4 : Int) b n23 n24 n2 l fun n25 n26 n27 =>
 (cond ((decide (((0 : Int) ≤ n25))) && (decide ((n25 < (4 : Int)))))
 (elemK [(8451 : Int), (65281 : Int), (16387 : Int), (2147483649 : Int)] (Int.toNat n25) fun x1 =>
 (G_spec_SetWord s7 (IntKind.wrap IntKind.i64 ((256 : Int) + (IntKind.wrap IntKind.i64 ((4 : Int) * n22)))) x1 fun s8 =>
 (G_spec_l01Src_one_Wr (6 : Int) b n26 n27 n2 l fun b11 n28 n29 =>
 (cond b11
 (G_spec_l01Src_n_Wr (3 : Int) b n28 n29 n2 l fun n30 n31 n32 =>
 (G_spec_l01Src_n_Wr (4 : Int) b n31 n32 n2 l fun n33 n34 n35 =>
 (cond ((decide (((0 : Int) ≤ n33))) && (decide ((n33 < (4 : Int)))))
 (elemK [(1 : Int), (76819 : Int), (2 : Int), (0 : Int)] (Int.toNat n33) fun x2 =>
 (G_spec_SetWord s8 (IntKind.wrap IntKind.i64 ((512 : Int) + (IntKind.wrap IntKind.i64 ((4 : Int) * n30)))) x2 fun s9 =>
 (k s9 b n34 n35 n2 l)))
 none)))
 (k s8 b n28 n29 n2 l)))))
 none)))
 (G_spec_l01Src_one_Wr (6 : Int) b n20 n21 n2 l fun b12 n36 n37 =>
 (cond b12
 (G_spec_l01Src_n_Wr (3 : Int) b n36 n37 n2 l fun n38 n39 n40 =>
 (G_spec_l01Src_n_Wr (4 : Int) b n39 n40 n2 l fun n41 n42 n43 =>
 (cond ((decide (((0 : Int) ≤ n41))) && (decide ((n41 < (4 : Int)))))
 (elemK [(1 : Int), (76819 : Int), (2 : Int), (0 : Int)] (Int.toNat n41) fun x3 =>
 (G_spec_SetWord s7 (IntKind.wrap IntKind.i64 ((512 : Int) + (IntKind.wrap IntKind.i64 ((4 : Int) * n38)))) x3 fun s10 =>
 (k s10 b n42 n43 n2 l)))
 none)))
 (k s7 b n36 n37 n2 l)))))) (fun s11 b13 n44 n45 n46 l18 =>
 (G_spec_l01Src_one_Wr (6 : Int) b13 n44 n45 n46 l18 fun b14 n47 n48 =>
 (cond b14
 (G_spec_l01Src_n_Wr (3 : Int) b13 n47 n48 n46 l18 fun n49 n50 n51 =>
 (G_spec_l01Src_n_Wr (4 : Int) b13 n50 n51 n46 l18 fun n52 n53 n54 =>
 (cond ((decide (((0 : Int) ≤ n52))) && (decide ((n52 < (4 : Int)))))
 (elemK [(8451 : Int), (65281 : Int), (16387 : Int), (2147483649 : Int)] (Int.toNat n52) fun x4 =>
 (G_spec_SetWord s11 (IntKind.wrap IntKind.i64 ((256 : Int) + (IntKind.wrap IntKind.i64 ((4 : Int) * n49)))) x4 fun s12 =>
 (G_spec_l01Src_one_Wr (6 : Int) b13 n53 n54 n46 l18 fun b15 n55 n56 =>
 (cond b15
 (G_spec_l01Src_n_Wr (3 : Int) b13 n55 n56 n46 l18 fun n57 n58 n59 =>
 (G_spec_l01Src_n_Wr (4 : Int) b13 n58 n59 n46 l18 fun n60 n61 n62 =>
 (cond ((decide (((0 : Int) ≤ n60))) && (decide ((n60 < (4 : Int)))))
 (elemK [(1 : Int), (76819 : Int), (2 : Int), (0 : Int)] (Int.toNat n60) fun x5 =>
 (G_spec_SetWord s12 (IntKind.wrap IntKind.i64 ((512 : Int) + (IntKind.wrap IntKind.i64 ((4 : Int) * n57)))) x5 fun s13 =>
 (k s13 b13 n61 n62 n46 l18)))
 none)))
 (k s12 b13 n55 n56 n46 l18)))))
 none)))
 (G_spec_l01Src_one_Wr (6 : Int) b13 n47 n48 n46 l18 fun b16 n63 n64 =>
 (cond b16
 (G_spec_l01Src_n_Wr (3 : Int) b13 n63 n64 n46 l18 fun n65 n66 n67 =>
 (G_spec_l01Src_n_Wr (4 : Int) b13 n66 n67 n46 l18 fun n68 n69 n70 =>
 (cond ((decide (((0 : Int) ≤ n68))) && (decide ((n68 < (4 : Int)))))
 (elemK [(1 : Int), (76819 : Int), (2 : Int), (0 : Int)] (Int.toNat n68) fun x6 =>
 (G_spec_SetWord s11 (IntKind.wrap IntKind.i64 ((512 : Int) + (IntKind.wrap IntKind.i64 ((4 : Int) * n65)))) x6 fun s14 =>
 (k s14 b13 n69 n70 n46 l18)))
 none)))
 (k s11 b13 n63 n64 n46 l18))))))))
 none)
 none)
 none)
 none)))
 none))
theorem ea_e_spec_l01Src_tables_Wr (N : Nat) (G_spec_SetWord : ∀ {R : Type} (s : ByteArray) (n : Int) (n1 : Int) (k : ByteArray → Option R), Option R) (G_spec_l01Src_one_Wr : ∀ {R : Type} (n : Int) (b : Bool) (n1 : Int) (n2 : Int) (n3 : Int) (l : List Int) (k : Bool → Int → Int → Option R), Option R) (G_spec_MapPages_ww : ∀ {R : Type} (s : ByteArray) (n : Int) (b : Bool) (b1 : Bool) (l : List PageMap) (l1 : List Int) (k : Int → Int → ByteArray → Bool → (List PageMap) → (List Int) → (List Int) → Option R) (k_1 : ByteArray → Nat → Nat → Nat → Bool → (List PageMap) → (List Int) → (List Int) → Option R), Option R) (G_spec_MapPages_rw : ∀ {R : Type} (s : ByteArray) (n : Int) (b : Bool) (b1 : Bool) (l : List PageMap) (l1 : List Int) (k : Int → Int → ByteArray → Bool → (List PageMap) → (List Int) → (List Int) → Option R) (k_1 : ByteArray → Nat → Nat → Nat → Bool → (List PageMap) → (List Int) → (List Int) → Option R), Option R) (G_spec_l01Src_maps_Wr : ∀ {R : Type} (n : Int) (b : Bool) (n1 : Int) (n2 : Int) (n3 : Int) (l : List Int) (k : Bool → Int → Int → (List PageMap) → Option R), Option R) (G_spec_l01Src_frames_Wr : ∀ {R : Type} (n : Int) (b : Bool) (n1 : Int) (n2 : Int) (n3 : Int) (l : List Int) (k : ByteArray → Int → Int → Option R), Option R) (G_spec_l01Src_n_Wr : ∀ {R : Type} (n : Int) (b : Bool) (n1 : Int) (n2 : Int) (n3 : Int) (l : List Int) (k : Int → Int → Int → Option R), Option R) {R : Type} (b : Bool) (n : Int) (n1 : Int) (n2 : Int) (l : List Int) (K : AV → Hp E → Option R) :
    runFnI (E := E) (OA_spec_l01Src_tables_Wr N G_spec_SetWord G_spec_l01Src_one_Wr G_spec_MapPages_ww G_spec_MapPages_rw G_spec_l01Src_maps_Wr G_spec_l01Src_frames_Wr G_spec_l01Src_n_Wr) (IT_spec_l01Src_tables_Wr_0 N) sl_spec_l01Src_tables_Wr J_spec_l01Src_tables_Wr Try.f28 [(AV.sc (SV.ptr 0 0 0))] [(some (HE.mk false (HB.exp none [(SV.slc 1 none b), (SV.int IntKind.i64 n), (SV.int IntKind.u64 n1), (SV.int IntKind.i64 n2)]))), (some (HE.mk true (HB.rows (B.u8 l))))] K =
      ga_g_spec_l01Src_tables_Wr N G_spec_SetWord G_spec_l01Src_one_Wr G_spec_MapPages_ww G_spec_MapPages_rw G_spec_l01Src_maps_Wr G_spec_l01Src_frames_Wr G_spec_l01Src_n_Wr b n n1 n2 l (fun s15 b17 n71 n72 n73 l19 => K (AV.sc (SV.str s15)) [(some (HE.mk false (HB.exp none [(SV.slc 1 none b17), (SV.int IntKind.i64 n71), (SV.int IntKind.u64 n72), (SV.int IntKind.i64 n73)]))), (some (HE.mk true (HB.rows (B.u8 l19))))]) := by kernel_rfl
theorem e_spec_l01Src_tables_Wr (N : Nat) {R : Type} (b : Bool) (n : Int) (n1 : Int) (n2 : Int) (l : List Int) (K : AV → Hp E → Option R) :
    runFnI (E := E) (O_spec_l01Src_tables_Wr N) (IT_spec_l01Src_tables_Wr_0 N) sl_spec_l01Src_tables_Wr J_spec_l01Src_tables_Wr Try.f28 [(AV.sc (SV.ptr 0 0 0))] [(some (HE.mk false (HB.exp none [(SV.slc 1 none b), (SV.int IntKind.i64 n), (SV.int IntKind.u64 n1), (SV.int IntKind.i64 n2)]))), (some (HE.mk true (HB.rows (B.u8 l))))] K =
      g_spec_l01Src_tables_Wr N b n n1 n2 l (fun s15 b17 n71 n72 n73 l19 => K (AV.sc (SV.str s15)) [(some (HE.mk false (HB.exp none [(SV.slc 1 none b17), (SV.int IntKind.i64 n71), (SV.int IntKind.u64 n72), (SV.int IntKind.i64 n73)]))), (some (HE.mk true (HB.rows (B.u8 l19))))]) := castPr (by kernel_rfl) (ea_e_spec_l01Src_tables_Wr N (g_spec_SetWord N) (g_spec_l01Src_one_Wr N) (g_spec_MapPages_ww N) (g_spec_MapPages_rw N) (g_spec_l01Src_maps_Wr N) (g_spec_l01Src_frames_Wr N) (g_spec_l01Src_n_Wr N) b n n1 n2 l K)
noncomputable def o_spec_l01Src_tables_Wr (N : Nat) {R : Type} (args : List AV) (H : Hp E) (K : AV → Hp E → Option R) : Option R :=
 match args, H with
 | [(AV.sc (SV.ptr 0 0 0))], [(some (HE.mk false (HB.exp none [(SV.slc 1 none b), (SV.int IntKind.i64 n), (SV.int IntKind.u64 n1), (SV.int IntKind.i64 n2)]))), (some (HE.mk true (HB.rows (B.u8 l))))] => g_spec_l01Src_tables_Wr N b n n1 n2 l (fun s15 b17 n71 n72 n73 l19 => K (AV.sc (SV.str s15)) [(some (HE.mk false (HB.exp none [(SV.slc 1 none b17), (SV.int IntKind.i64 n71), (SV.int IntKind.u64 n72), (SV.int IntKind.i64 n73)]))), (some (HE.mk true (HB.rows (B.u8 l19))))])
 | _, _ => none
theorem o_spec_l01Src_tables_Wr_ok (N : Nat) : FnOk E 28 (o_spec_l01Src_tables_Wr N) := by
  intro R args H K r h
  unfold o_spec_l01Src_tables_Wr at h
  dsimp only at h
  split at h
  · exact fnB_ok (ids := [0]) (top := [0]) ok (O_spec_l01Src_tables_Wr_ok N) (jn_ok _ _ _) Try.func28 (by kernel_rfl) (IT := IT_spec_l01Src_tables_Wr_0 N) (sl := sl_spec_l01Src_tables_Wr) (J := J_spec_l01Src_tables_Wr) (K := K) (H := [(some (HE.mk false (HB.exp none [(SV.slc 1 none _), (SV.int IntKind.i64 _), (SV.int IntKind.u64 _), (SV.int IntKind.i64 _)]))), (some (HE.mk true (HB.rows (B.u8 _))))]) (IT_spec_l01Src_tables_Wr_0_ok N) (by kernel_rfl) rfl ((e_spec_l01Src_tables_Wr N _ _ _ _ _ K).trans h)
  · cases h
/-! ### (*loop.example/g00038/spec.l01Src).va -/
abbrev sl_spec_l01Src_va_Wr : SlotT := []
abbrev J_spec_l01Src_va_Wr : JT := jn [] [] [(1, [2, 7])]
noncomputable def O_spec_l01Src_va_Wr (N : Nat) : Orc E := addFn 26 (o_spec_l01Src_one_Wr N) (addFn 27 (o_spec_l01Src_n_Wr N) (noFn))
theorem O_spec_l01Src_va_Wr_ok (N : Nat) : OrcOk (O_spec_l01Src_va_Wr N) := addFn_ok (o_spec_l01Src_one_Wr_ok N) (addFn_ok (o_spec_l01Src_n_Wr_ok N) (noFn_ok))
noncomputable def g_spec_l01Src_va_Wr (N : Nat) {R : Type} (b : Bool) (n : Int) (n1 : Int) (n2 : Int) (l : List Int) (k : Int → Int → Int → Option R) : Option R :=
 (g_spec_l01Src_n_Wr N (10 : Int) b n n1 n2 l fun n3 n4 n5 =>
 (cond ((decide (((0 : Int) ≤ n3))) && (decide ((n3 < (10 : Int)))))
 (elemK [(0 : Int), (1 : Int), (2 : Int), (31 : Int), (32 : Int), (33 : Int), (64 : Int), (1023 : Int), (5 : Int), (96 : Int)] (Int.toNat n3) fun x =>
 (g_spec_l01Src_n_Wr N (64 : Int) b n4 n5 n2 l fun n6 n7 n8 =>
 (g_spec_l01Src_one_Wr N (30 : Int) b n7 n8 n2 l fun b1 n9 n10 =>
 (cond b1
 (g_spec_l01Src_n_Wr N (3 : Int) b n9 n10 n2 l fun n11 n12 n13 =>
 (cond ((decide (((0 : Int) ≤ n11))) && (decide ((n11 < (3 : Int)))))
 (elemK [(-(1 : Int)), (262144 : Int), (262140 : Int)] (Int.toNat n11) fun x1 =>
 (k x1 n12 n13))
 none))
 (k (IntKind.wrap IntKind.i64 ((IntKind.wrap IntKind.i64 (x * (256 : Int))) + (IntKind.wrap IntKind.i64 (n6 * (4 : Int))))) n9 n10)))))
 none))
theorem e_spec_l01Src_va_Wr (N : Nat) {R : Type} (b : Bool) (n : Int) (n1 : Int) (n2 : Int) (l : List Int) (K : AV → Hp E → Option R) :
    runFnI (E := E) (O_spec_l01Src_va_Wr N) (noIt) sl_spec_l01Src_va_Wr J_spec_l01Src_va_Wr Try.f29 [(AV.sc (SV.ptr 0 0 0))] [(some (HE.mk false (HB.exp none [(SV.slc 1 none b), (SV.int IntKind.i64 n), (SV.int IntKind.u64 n1), (SV.int IntKind.i64 n2)]))), (some (HE.mk true (HB.rows (B.u8 l))))] K =
      g_spec_l01Src_va_Wr N b n n1 n2 l (fun n14 n15 n16 => K (AV.sc (SV.int IntKind.i64 n14)) [(some (HE.mk false (HB.exp none [(SV.slc 1 none b), (SV.int IntKind.i64 n15), (SV.int IntKind.u64 n16), (SV.int IntKind.i64 n2)]))), (some (HE.mk true (HB.rows (B.u8 l))))]) := by kernel_rfl
noncomputable def o_spec_l01Src_va_Wr (N : Nat) {R : Type} (args : List AV) (H : Hp E) (K : AV → Hp E → Option R) : Option R :=
 match args, H with
 | [(AV.sc (SV.ptr 0 0 0))], [(some (HE.mk false (HB.exp none [(SV.slc 1 none b), (SV.int IntKind.i64 n), (SV.int IntKind.u64 n1), (SV.int IntKind.i64 n2)]))), (some (HE.mk true (HB.rows (B.u8 l))))] => g_spec_l01Src_va_Wr N b n n1 n2 l (fun n14 n15 n16 => K (AV.sc (SV.int IntKind.i64 n14)) [(some (HE.mk false (HB.exp none [(SV.slc 1 none b), (SV.int IntKind.i64 n15), (SV.int IntKind.u64 n16), (SV.int IntKind.i64 n2)]))), (some (HE.mk true (HB.rows (B.u8 l))))])
 | _, _ => none
theorem o_spec_l01Src_va_Wr_ok (N : Nat) : FnOk E 29 (o_spec_l01Src_va_Wr N) := by
  intro R args H K r h
  unfold o_spec_l01Src_va_Wr at h
  dsimp only at h
  split at h
  · exact fnB_ok (ids := []) (top := []) ok (O_spec_l01Src_va_Wr_ok N) (jn_ok _ _ _) Try.func29 (by kernel_rfl) (IT := noIt) (sl := sl_spec_l01Src_va_Wr) (J := J_spec_l01Src_va_Wr) (K := K) (H := [(some (HE.mk false (HB.exp none [(SV.slc 1 none _), (SV.int IntKind.i64 _), (SV.int IntKind.u64 _), (SV.int IntKind.i64 _)]))), (some (HE.mk true (HB.rows (B.u8 _))))]) (noIt_ok) (by kernel_rfl) rfl ((e_spec_l01Src_va_Wr N _ _ _ _ _ K).trans h)
  · cases h
end Go.Sa
