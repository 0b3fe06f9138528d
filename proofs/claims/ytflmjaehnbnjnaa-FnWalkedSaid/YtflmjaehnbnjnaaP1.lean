import Derived.Test.YtflmjaehnbnjnaaP0
set_option linter.all false
namespace Go.Sa
open Go Go.Eng
section
variable {R : Type} (N : Nat)
variable {R : Type}

theorem src_tables {b : Bool} {p m z : Int} {l : List Int} (hl : l.length ≤ 2 ^ 30) (hp : 0 ≤ p ∧ p ≤ 2 ^ 40) (hN : 2 ^ 40 < N) :
    ∃ (n : Nat) (s : ByteArray) (p' m' : Int), (n = 8 ∨ n = 12 ∨ n = 40) ∧ s.size = n * 256 ∧ (0 ≤ p' ∧ p' ≤ 2 ^ 40) ∧ ∀ k : ByteArray → Bool → Int → Int → Int → List Int → Option R, g_spec_l01Src_tables_Wr N b p m z l k = k s b p' m' z l := by
  obtain ⟨v1, p1, m1, a0, a1, _, hp1, h1⟩ := src_n (R := R) N (n := 3) (b := b) (m := m) (z := z) (by omega) hl hp
  have a1 := a1 (by omega)
  obtain ⟨x, hxm, hx⟩ := pick_lit (R := R) (L := [(8 : Int), (12 : Int), (40 : Int)]) a0 (by simpa using a1)
  obtain ⟨n, rfl, hn⟩ : ∃ n : Nat, x = (n : Int) ∧ (n = 8 ∨ n = 12 ∨ n = 40) := by
    simp only [List.mem_cons, List.not_mem_nil, or_false] at hxm
    exact ⟨x.toNat, by omega, by omega⟩
  obtain ⟨s, p2, m2, hs, hp2, h2⟩ := src_frames (R := R) N (n := n) (b := b) (m := m1) (z := z) (by omega) (by omega) hl hp1 hN
  obtain ⟨b1, p3, m3, L, _, hL, hp3, h3⟩ := src_maps (R := R) N (n := (n : Int)) (b := b) (m := m2) (z := z) (by omega) hl hp2 hN
  have hz : (toBytes (seg (List.replicate 256 (0 : Int)) 0 256)).size = 256 := by rw [toBytes_size]; unfold seg; rw [List.length_take, List.length_drop, List.length_replicate]; rfl
  have hsz : (s.extract 0 256 ++ toBytes (seg (List.replicate 256 (0 : Int)) 0 256) ++ s.extract 512 s.size).size = n * 256 := by
    rw [ByteArray.size_append, ByteArray.size_append, hz, ByteArray.size_extract, ByteArray.size_extract]; omega
  have hrun : ∀ k : ByteArray → Bool → Int → Int → Int → List Int → Option R, g_spec_l01Src_tables_Wr N b p m z l k = _ := fun k => by
    unfold g_spec_l01Src_tables_Wr
    rw [h1, in_rng a0 a1, cond_true, hx, h2, decide_eq_true (show (256 : Int) ≤ (s.size : Int) by omega), cond_true, show (256 : Int).toNat = 256 from rfl, ble_t (by rw [ByteArray.size_extract]; omega), cond_true, decide_eq_true (show (512 : Int) ≤ (s.size : Int) by omega), decide_eq_true (show (s.size : Int) ≤ (s.size : Int) by omega), Bool.and_self, cond_true, Int.toNat_natCast,
      ble_t (by rw [ByteArray.size_append, hz, ByteArray.size_extract, ByteArray.size_extract]; omega), cond_true, h3]
  clear h1 h2 h3 hx
  generalize s.extract 0 256 ++ toBytes (seg (List.replicate 256 (0 : Int)) 0 256) ++ s.extract 512 s.size = t at hsz hrun
  obtain ⟨s1, g1, g⟩ := tbl_start (R := R) N (s1 := t) (b2 := b1) (b3 := b) (n10 := p3) (n11 := m3) (n12 := z) (l2 := l) (l3 := L) (by omega) (by omega) (memOk_of hsz (by omega) (by omega)) (by omega) (by omega) hN
  obtain ⟨s', p', m', q1, q2, q3⟩ := tab_first (R := R) N (s := s1) (b := b) (m := m3) (z := z) (by omega) (by omega) hl hp3
  refine ⟨n, s', p', m', hn, by omega, q2, fun k => ?_⟩
  rw [hrun]
  rcases g with g | g
  · exact (g _ _).trans (q3 k)
  · exact (g _ _).trans (q3 k)

theorem src_va {b : Bool} {p m z : Int} {l : List Int} (hl : l.length ≤ 2 ^ 30) (hp : 0 ≤ p ∧ p ≤ 2 ^ 40) :
    ∃ (v p' m' : Int), (0 ≤ p' ∧ p' ≤ 2 ^ 40) ∧ ∀ k : Int → Int → Int → Option R, g_spec_l01Src_va_Wr N b p m z l k = k v p' m' := by
  obtain ⟨v1, p1, m1, a0, a1, _, hp1, h1⟩ := src_n (R := R) N (n := 10) (b := b) (m := m) (z := z) (by omega) hl hp
  have a1 := a1 (by omega)
  obtain ⟨x, _, hx⟩ := pick_lit (R := R) (L := [(0 : Int), (1 : Int), (2 : Int), (31 : Int), (32 : Int), (33 : Int), (64 : Int), (1023 : Int), (5 : Int), (96 : Int)]) a0 (by simpa using a1)
  obtain ⟨v2, p2, m2, _, _, _, hp2, h2⟩ := src_n (R := R) N (n := 64) (b := b) (m := m1) (z := z) (by omega) hl hp1
  obtain ⟨v3, p3, m3, hp3, h3⟩ := src_one (R := R) N (n := 30) (b := b) (m := m2) (z := z) (by omega) hl hp2
  cases v3 with
  | false => exact ⟨_, p3, m3, hp3, fun k => by unfold g_spec_l01Src_va_Wr; rw [h1, in_rng a0 a1, cond_true, hx, h2, h3, cond_false]⟩
  | true =>
    obtain ⟨v4, p4, m4, c0, c1, _, hp4, h4⟩ := src_n (R := R) N (n := 3) (b := b) (m := m3) (z := z) (by omega) hl hp3
    have c1 := c1 (by omega)
    obtain ⟨y, _, hy⟩ := pick_lit (R := R) (L := [(-(1 : Int)), (262144 : Int), (262140 : Int)]) c0 (by simpa using c1)
    exact ⟨y, p4, m4, hp4, fun k => by unfold g_spec_l01Src_va_Wr; rw [h1, in_rng a0 a1, cond_true, hx, h2, h3, cond_true, h4, in_rng c0 c1, cond_true, hy]⟩


theorem DrawWalk_ok {b : Bool} {l : List Int} (hl : l.length ≤ 2 ^ 30) (hN : 2 ^ 40 < N) :
    ∃ (s : ByteArray) (root va acc : Int) (u : Bool), s.size ≤ 65536 ∧ ∀ k : ByteArray → Int → Int → Int → Bool → Option R, g_spec_DrawWalk_r N b l k = k s root va acc u := by
  obtain ⟨m0, z, _, _, h0⟩ := src_of (R := R) N (b := b) hl hN
  obtain ⟨v1, p1, m1, hp1, h1⟩ := src_one (R := R) N (n := 12) (b := b) (m := m0) (z := z) (p := 0) (by omega) hl (by omega)
  have tail : ∀ (x p m : Int), (0 ≤ p ∧ p ≤ 2 ^ 40) → ∃ (s : ByteArray) (va acc : Int) (u : Bool), s.size ≤ 65536 ∧ ∀ k : ByteArray → Int → Int → Int → Bool → Option R,
      (g_spec_l01Src_tables_Wr N b p m z l fun s b2 n7 n8 n9 l1 =>
      (g_spec_l01Src_one_Wr N (40 : Int) b2 n7 n8 n9 l fun b3 n10 n11 =>
      (oK (cond b3
        (cond ((decide ((1 : Int) ≤ (((ByteArray.size s) : Nat) : Int))) && (decide ((((ByteArray.size s) : Nat) : Int) ≤ (((ByteArray.size s) : Nat) : Int))))
          (some (ByteArray.extract s 1 (Int.toNat (((ByteArray.size s) : Nat) : Int))))
          none)
        (some s)) fun j =>
      (g_spec_l01Src_n_Wr N (3 : Int) b2 n10 n11 n9 l fun n12 n13 n14 =>
      (g_spec_l01Src_one_Wr N (40 : Int) b2 n13 n14 n9 l fun b4 n15 n16 =>
      (cond b4
      (g_spec_l01Src_n_Wr N (2 : Int) b2 n15 n16 n9 l fun n17 n18 n19 =>
        (cond ((decide ((0 : Int) ≤ n17)) && (decide (n17 < (2 : Int))))
        (elemK [(0 : Int), (4 : Int)] (Int.toNat n17) fun x1 =>
          (g_spec_l01Src_va_Wr N b2 n18 n19 n9 l fun n20 n21 n22 =>
          (g_spec_l01Src_one_Wr N (2 : Int) b2 n21 n22 n9 l fun b5 n23 n24 =>
          (k j x n20 x1 b5))))
        none))
      (g_spec_l01Src_va_Wr N b2 n15 n16 n9 l fun n25 n26 n27 =>
        (g_spec_l01Src_one_Wr N (2 : Int) b2 n26 n27 n9 l fun b6 n28 n29 =>
        (k j x n25 (IntKind.wrap .i64 ((1 : Int) + n12)) b6))))))))) = k s x va acc u := by
    intro x p m hp
    obtain ⟨n, s, p2, m2, hn, hs, hp2, h2⟩ := src_tables (R := R) N (b := b) (m := m) (z := z) hl hp hN
    obtain ⟨v3, p3, m3, hp3, h3⟩ := src_one (R := R) N (n := 40) (b := b) (m := m2) (z := z) (by omega) hl hp2
    obtain ⟨t, ht, hj⟩ : ∃ t : ByteArray, t.size ≤ 65536 ∧ (cond v3 (cond ((decide ((1 : Int) ≤ (((ByteArray.size s) : Nat) : Int))) && (decide ((((ByteArray.size s) : Nat) : Int) ≤ (((ByteArray.size s) : Nat) : Int)))) (some (ByteArray.extract s 1 (Int.toNat (((ByteArray.size s) : Nat) : Int)))) none) (some s)) = some t := by
      cases v3 with
      | true => exact ⟨s.extract 1 s.size, by rw [ByteArray.size_extract]; omega, by rw [cond_true, decide_eq_true (by omega), decide_eq_true (by omega)]; rfl⟩
      | false => exact ⟨s, by omega, rfl⟩
    obtain ⟨v4, p4, m4, _, _, _, hp4, h4⟩ := src_n (R := R) N (n := 3) (b := b) (m := m3) (z := z) (by omega) hl hp3
    obtain ⟨v5, p5, m5, hp5, h5⟩ := src_one (R := R) N (n := 40) (b := b) (m := m4) (z := z) (by omega) hl hp4
    cases v5 with
    | true =>
      obtain ⟨v6, p6, m6, c0, c1, _, hp6, h6⟩ := src_n (R := R) N (n := 2) (b := b) (m := m5) (z := z) (by omega) hl hp5
      have c1 := c1 (by omega)
      obtain ⟨y, _, hy⟩ := pick_lit (R := R) (L := [(0 : Int), (4 : Int)]) c0 (by simpa using c1)
      obtain ⟨v7, p7, m7, hp7, h7⟩ := src_va (R := R) N (b := b) (m := m6) (z := z) hl hp6
      obtain ⟨v8, p8, m8, hp8, h8⟩ := src_one (R := R) N (n := 2) (b := b) (m := m7) (z := z) (by omega) hl hp7
      exact ⟨t, v7, y, v8, ht, fun k => by rw [h2, h3, hj, oK_some_eq, h4, h5, cond_true, h6, in_rng c0 c1, cond_true, hy, h7, h8]⟩
    | false =>
      obtain ⟨v7, p7, m7, hp7, h7⟩ := src_va (R := R) N (b := b) (m := m5) (z := z) hl hp5
      obtain ⟨v8, p8, m8, hp8, h8⟩ := src_one (R := R) N (n := 2) (b := b) (m := m7) (z := z) (by omega) hl hp7
      exact ⟨t, v7, _, v8, ht, fun k => by rw [h2, h3, hj, oK_some_eq, h4, h5, cond_false, h7, h8]⟩
  cases v1 with
  | true =>
    obtain ⟨v6, p6, m6, c0, c1, _, hp6, h6⟩ := src_n (R := R) N (n := 5) (b := b) (m := m1) (z := z) (by omega) hl hp1
    have c1 := c1 (by omega)
    obtain ⟨y, _, hy⟩ := pick_lit (R := R) (L := [(0 : Int), (255 : Int), (-(1 : Int)), (256 : Int), (7 : Int)]) c0 (by simpa using c1)
    obtain ⟨s, va, acc, u, hs, hk⟩ := tail y p6 m6 hp6
    exact ⟨s, y, va, acc, u, hs, fun k => by unfold g_spec_DrawWalk_r; rw [h0, h1, cond_true, h6, in_rng c0 c1, cond_true, hy]; exact hk k⟩
  | false =>
    obtain ⟨s, va, acc, u, hs, hk⟩ := tail 1 p1 m1 hp1
    exact ⟨s, 1, va, acc, u, hs, fun k => by unfold g_spec_DrawWalk_r; rw [h0, h1, cond_false]; exact hk k⟩

def ad8 (x : Int) : Int := IntKind.wrap .u8 (((BitVec.toNat ((BitVec.ofInt 8 (IntKind.wrap .u8 (((BitVec.toNat ((BitVec.ofInt 8 x) ||| (BitVec.ofInt 8 (32 : Int)))) : Nat) : Int))) ||| (BitVec.ofInt 8 (64 : Int)))) : Nat) : Int)

theorem ad8_or : ∀ m : Nat, m < 256 → ad8 ((m ||| 96 : Nat) : Int) = ad8 (m : Int) ∧ ad8 ((m ||| 32 : Nat) : Int) = ad8 (m : Int) := by decide +kernel

theorem walked_go {s m : ByteArray} {a : Nat} {n9 n10 n11 n14 n15 n16 : Int} {b6 b7 b8 : Bool} {l3 l4 : List Int} (hs : s.size ≤ 65536) (hsz : m.size = s.size) (h4 : a % 4 = 0) (hout : ∀ j, j ≠ a → bt m j = bt s j) (hin : ad8 (bt s a) = ad8 (bt m a)) :
    ∀ (d f i : Nat) (c : Int), i + d = s.size → d < f → 0 ≤ c → c ≤ 1 → (i ≤ a → c = 0) → ∃ c' : Int, c' ≤ 1 ∧ ∀ kR kN : Int → Option R, l_laws_FnWalked_r_0 N s n9 n10 n11 b6 l3 n14 n15 n16 b7 b8 m l4 kR kN f c (i : Int) = kN c' := by
  intro d
  induction d with
  | zero =>
    intro f i c hi hf hc0 hc1 hia
    obtain ⟨f, rfl⟩ : ∃ j, f = j + 1 := ⟨f - 1, by omega⟩
    refine ⟨c, hc1, fun kR kN => ?_⟩
    rw [l_laws_FnWalked_r_0, s_laws_FnWalked_r_0, decide_eq_false (by omega), cond_false]
  | succ d ih =>
    intro f i c hi hf hc0 hc1 hia
    obtain ⟨f, rfl⟩ : ∃ j, f = j + 1 := ⟨f - 1, by omega⟩
    have e : IntKind.wrap .i64 ((i : Int) + 1) = ((i + 1 : Nat) : Int) := by rw [w64 (by omega) (by omega)]; omega
    have hlt : (i : Int) < (s.size : Int) := by omega
    have hrun : ∀ kR kN : Int → Option R, l_laws_FnWalked_r_0 N s n9 n10 n11 b6 l3 n14 n15 n16 b7 b8 m l4 kR kN (f + 1) c (i : Int) = _ := fun kR kN => by
      rw [l_laws_FnWalked_r_0, s_laws_FnWalked_r_0, hsz, decide_eq_true hlt, cond_true, dec_nn, Bool.and_self, cond_true, cond_true, Int.toNat_natCast, cond_true, cond_true, e]
    by_cases hia2 : i = a
    · subst hia2
      have hc := hia (Nat.le_refl _)
      subst hc
      by_cases hd : bt s i = bt m i
      · obtain ⟨c', h1, h2⟩ := ih f (i + 1) 0 (by omega) (by omega) (by omega) (by omega) (fun _ => rfl)
        refine ⟨c', h1, fun kR kN => ?_⟩
        rw [hrun, hd, bne_self_eq_false, cond_false]
        exact h2 kR kN
      · obtain ⟨c', h1, h2⟩ := ih f (i + 1) 1 (by omega) (by omega) (by omega) (by omega) (fun h => absurd h (by omega))
        refine ⟨c', h1, fun kR kN => ?_⟩
        have ht : (Int.tmod (i : Int) 4 != 0) = false := by rw [tmod_nn (by omega)]; simp; omega
        have hne : (bt s i != bt m i) = true := by simpa using hd
        have hin2 : (ad8 (bt s i) != ad8 (bt m i)) = false := by rw [hin, bne_self_eq_false]
        unfold ad8 at hin2
        rw [hrun, hne, cond_true, ht, cond_false, hin2, oK_some_eq, cond_false, show IntKind.wrap .i64 ((0 : Int) + 1) = 1 from rfl]
        exact h2 kR kN
    · obtain ⟨c', h1, h2⟩ := ih f (i + 1) c (by omega) (by omega) hc0 hc1 (fun h => hia (by omega))
      refine ⟨c', h1, fun kR kN => ?_⟩
      rw [hrun, hout i hia2, bne_self_eq_false, cond_false]
      exact h2 kR kN

theorem beq_f {x y : Int} (h : (x != y) = false) : (x == y) = true := by simpa using h

theorem law_FnWalked {b : Bool} {l : List Int} (hN : 2 ^ 40 < N) (k : Bool → Option R) : g_laws_FnWalked_r N b l k = k true := by
  unfold g_laws_FnWalked_r
  by_cases hl : (l.length : Int) > 1048576
  · rw [decide_eq_true hl]; rfl
  rw [decide_eq_false hl, cond_false]
  obtain ⟨s, root, va, acc, u, hs, hk⟩ := DrawWalk_ok (R := R) N (b := b) (l := l) (by omega) hN
  rw [hk]
  clear hk
  cases h2 : twoBad s 0 root va acc with
  | true =>
    obtain ⟨hI, hS⟩ := Walk_bad (R := R) N (u := u) h2
    rw [hI, hS, bne_self_eq_false, decide_eq_true (rfl : (⟨[].toArray⟩ : ByteArray) = ⟨[].toArray⟩)]
    rfl
  | false =>
  obtain ⟨hg, _, ro, v, _, rfl, rfl, _, q2, q3, ha⟩ := twoBad_facts h2
  have hI := impl_Walk_eq (R := R) N (u := u) hg q2 q3 ha
  have hS := spec_Walk_eq N (R := R) (user := u) hg.ok hg.le hg.fr q2 q3 ha
  have hz := look_zero s ro v acc u
  cases hf : ((look s ro v acc u).fault != 0) with
  | true =>
    obtain ⟨z1, _, _⟩ := hz hf
    have hf1 : ((look s ro v acc u).fault == 0) = false := by simpa using hf
    rw [hI, hf, cond_true, hS, z1, hf1, cond_false, bne_self_eq_false, cond_false, bne_self_eq_false, cond_false, decide_eq_true (rfl : s = s)]
    cases decide (s = ⟨[].toArray⟩) <;> rfl
  | false =>
    have hf2 : (look s ro v acc u).fault = 0 := by simpa using hf
    have hf1 : ((look s ro v acc u).fault == 0) = true := beq_f hf
    obtain ⟨a, t, i, rfl, g1, g2, g3, g4, g5, g6⟩ := look_ok (u := u) hg.fr q3 hf2
    have hin : ent t i + 4 ≤ s.size := by rw [ent_eq]; have := hg.fr; omega
    have hsz := setWord_size hin ((putE (wordN s (ent t i)) acc : Nat) : Int)
    obtain ⟨f1, f2, f3, f4, f5⟩ := putE_facts (wordN s (ent t i)) acc
    have hw := wordN_cast s (ent t i)
    have hby : bt s (ent t i) = ((wordN s (ent t i) % 256 : Nat) : Int) ∧ bt s (ent t i + 1) = ((wordN s (ent t i) / 256 % 256 : Nat) : Int) ∧ bt s (ent t i + 2) = ((wordN s (ent t i) / 256 / 256 % 256 : Nat) : Int) ∧ bt s (ent t i + 3) = ((wordN s (ent t i) / 256 / 256 / 256 : Nat) : Int) := by
      have b0 := bt_bound s (ent t i)
      have b1 := bt_bound s (ent t i + 1)
      have b2 := bt_bound s (ent t i + 2)
      have b3 := bt_bound s (ent t i + 3)
      unfold wordAt at hw
      generalize wordN s (ent t i) = w at hw
      omega
    have hlt := wordN_lt s (ent t i)
    have hnew : ∀ j, j ≠ ent t i → bt (setWord s (ent t i) ((putE (wordN s (ent t i)) acc : Nat) : Int)) j = bt s j := fun j hj => by
      obtain ⟨y0, y1, y2, y3⟩ := bt_putWord ((putE (wordN s (ent t i)) acc : Nat) : Int)
      obtain ⟨c0, c1, c2, c3⟩ := hby
      by_cases hr : ent t i ≤ j ∧ j < ent t i + 4
      · have h123 : j = ent t i + 1 ∨ j = ent t i + 2 ∨ j = ent t i + 3 := by omega
        rcases h123 with rfl | rfl | rfl
        · rw [bt_set_in hin (by omega), y1, c1]; omega
        · rw [bt_set_in hin (by omega), y2, c2]; omega
        · rw [bt_set_in hin (by omega), y3, c3]; omega
      · exact bt_set_out hin (by omega) _
    have hat : bt (setWord s (ent t i) ((putE (wordN s (ent t i)) acc : Nat) : Int)) (ent t i) = ((wordN s (ent t i) % 256 ||| (if acc == 2 then 96 else 32) : Nat) : Int) := by
      obtain ⟨y0, _⟩ := bt_putWord ((putE (wordN s (ent t i)) acc : Nat) : Int)
      have := bt_set_in (s := s) (i := ent t i) (k := 0) hin (by omega) ((putE (wordN s (ent t i)) acc : Nat) : Int)
      rw [Nat.add_zero] at this
      rw [this, y0, ← f5]; omega
    have hflag : ad8 (bt s (ent t i)) = ad8 (bt (setWord s (ent t i) ((putE (wordN s (ent t i)) acc : Nat) : Int)) (ent t i)) := by
      rw [hat, hby.1]
      obtain ⟨o1, o2⟩ := ad8_or (wordN s (ent t i) % 256) (by omega)
      split
      · exact o1.symm
      · exact o2.symm
    have hne : decide (setWord s (ent t i) ((putE (wordN s (ent t i)) acc : Nat) : Int) = ⟨[].toArray⟩) = false := decide_eq_false fun hh => by
      have := congrArg ByteArray.size hh
      rw [hsz] at this
      have : s.size = 0 := this
      omega
    have hg2 : Good (setWord s (ent t i) ((putE (wordN s (ent t i)) acc : Nat) : Int)) := good_size hg hsz
    have hI2 := impl_Walk_eq (R := R) N (u := u) hg2 q2 q3 ha
    have hset : setWord (setWord s (ent t i) ((putE (wordN s (ent t i)) acc : Nat) : Int)) (ent t i) ((putE (wordN s (ent t i)) acc : Nat) : Int) = setWord s (ent t i) ((putE (wordN s (ent t i)) acc : Nat) : Int) := set_set hin _ _
    rw [g6] at hI2
    dsimp only at hI2
    rw [g3, g5, Int.toNat_natCast] at hI hI2 hS
    rw [hset] at hI2
    obtain ⟨c', hc', hloop⟩ := walked_go (R := R) N (s := s) (m := setWord s (ent t i) ((putE (wordN s (ent t i)) acc : Nat) : Int)) (a := ent t i) (n9 := (ro : Int)) (n10 := (v : Int)) (n11 := acc) (b6 := u) (l3 := l) (n14 := 0) (n15 := (look s ro v acc u).pa) (n16 := ((putE (wordN s (ent t i)) acc : Nat) : Int)) (b7 := (look s ro v acc u).large) (b8 := false) (l4 := framesOf (look s ro v acc u)) hg.le hsz (by rw [ent_eq]; omega) hnew hflag s.size N 0 0 (by omega) (by omega) (by omega) (by omega) (fun _ => rfl)
    rw [hI, hf, cond_false, hS, hf1, cond_true, hf2, bne_self_eq_false, cond_false, bne_self_eq_false, cond_false, decide_eq_true rfl, Bool.not_true, oK_some_eq, cond_false, cond_false, oK_some_eq, hne, cond_false]
    unfold c_laws_FnWalked_r_0
    refine (hloop _ _).trans ?_
    rw [hI2, hf, cond_false, decide_eq_true hc', cond_true, beq_self_eq_true, cond_true, beq_self_eq_true, cond_true, decide_eq_true rfl, oK_some_eq]

end
end Go.Sa
