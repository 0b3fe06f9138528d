import Derived.Test.YtflmjaehnbnjnaaP0
set_option linter.all false
namespace Go.Sa
open Go Go.Eng
section
variable {R : Type} (N : Nat)
variable {R : Type}

theorem map_v1 {s : ByteArray} {r : Nat} {n1 n2 n3 : Int} {b b1 : Bool} {m m1 m2 : Nat} {l : List Int} (hs : s.size ≤ 65536) (h256 : s.size % 256 = 0) (hr : r < s.size / 256) (hw : m + m1 ≤ l.length) (hl : ∀ x ∈ l, ∃ y : Nat, x = (y : Int) ∧ y < s.size / 256) :
    ∃ (s' : ByteArray) (m' m1' m2' : Nat) (c : Int), s'.size = s.size ∧ m' + m1' ≤ l.length ∧ ∀ k : ByteArray → Nat → Nat → Nat → Int → Option R, g_spec_l03Map_w_v1 N s (r : Int) n1 n2 n3 b m m1 m2 b1 l k = k s' m' m1' m2' c := by
  have hj : ∀ k : ByteArray → Nat → Nat → Nat → Int → Option R, g_spec_l03Map_w_v1 N s (r : Int) n1 n2 n3 b m m1 m2 b1 l k = oK (cond b (some (8192 : Int)) (some (256 : Int))) fun j => oK (cond (decide (n1 < 0)) (some true) (cond (decide (n1 ≥ 262144)) (some true) (mapForm n1 n2 n3 j b))) _ := fun k => rfl
  by_cases hv0 : n1 < 0
  · exact ⟨s, m, m1, m2, 1, rfl, hw, fun k => by rw [hj]; cases b <;> (rw [decide_eq_true hv0]; rfl)⟩
  by_cases hv1 : n1 ≥ 262144
  · exact ⟨s, m, m1, m2, 1, rfl, hw, fun k => by rw [hj]; cases b <;> (rw [decide_eq_true hv1, decide_eq_false hv0]; rfl)⟩
  obtain ⟨v, rfl⟩ := Int.eq_ofNat_of_zero_le (show 0 ≤ n1 by omega)
  have hv : v < 262144 := by omega
  obtain ⟨bad, hbad⟩ := mapForm_ex (v : Int) n2 n3 (cond b 8192 256) b (by cases b <;> decide)
  have hc : (cond b (some (8192 : Int)) (some (256 : Int))) = some (cond b 8192 256) := by cases b <;> rfl
  have hk : ∀ k : ByteArray → Nat → Nat → Nat → Int → Option R, g_spec_l03Map_w_v1 N s (r : Int) v n2 n3 b m m1 m2 b1 l k = cond bad (k s m m1 m2 1) _ := fun k => by
    rw [hj, hc, oK_some_eq, decide_eq_false hv0, cond_false, decide_eq_false hv1, cond_false, hbad, oK_some_eq]
  cases bad with
  | true => exact ⟨s, m, m1, m2, 1, rfl, hw, fun k => by rw [hk]; rfl⟩
  | false =>
  have hd : v / 8192 < 32 := by omega
  have hat : (r * 256 + 4 * (v / 8192)) + 4 ≤ s.size := by omega
  have he := wordN_lt s (r * 256 + 4 * (v / 8192))
  generalize hw0 : wordN s (r * 256 + 4 * (v / 8192)) = e at he
  have hk2 : ∀ k : ByteArray → Nat → Nat → Nat → Int → Option R, g_spec_l03Map_w_v1 N s (r : Int) v n2 n3 b m m1 m2 b1 l k = _ := fun k => by
    rw [hk, cond_false, at_eq (by omega) hv, spec_l01Word_eq N hat (by omega), wordN_cast, hw0]
  obtain ⟨s1, c1, hs1, hlast⟩ := map_last (R := R) N (s := s) (e := e) (v := v) (w := IntKind.wrap .i64 (((BitVec.toNat (BitVec.ofInt 64 (IntKind.wrap .i64 (((BitVec.toNat (BitVec.ofInt 64 (IntKind.wrap .i64 (n2 * 256)) ||| BitVec.ofInt 64 n3)) : Nat) : Int)) ||| BitVec.ofInt 64 1)) : Nat) : Int)) hs (by omega) hv
  cases b with
  | true =>
    cases hV : (IntKind.wrap .i64 (((BitVec.toNat (BitVec.ofInt 64 (e : Int) &&& BitVec.ofInt 64 1)) : Nat) : Int) != 0) with
    | true => exact ⟨s, m, m1, m2, 9, rfl, hw, fun k => by rw [hk2, cond_true, hV, cond_true]⟩
    | false => exact ⟨setWord s (r * 256 + 4 * (v / 8192)) _, m, m1, m2, 0, setWord_size hat _, hw, fun k => by rw [hk2, cond_true, hV, cond_false, spec_SetWord_eq N hat hs]⟩
  | false =>
    cases hV : (IntKind.wrap .i64 (((BitVec.toNat (BitVec.ofInt 64 (e : Int) &&& BitVec.ofInt 64 1)) : Nat) : Int) != 0) with
    | true =>
      have hV' : (IntKind.wrap .i64 (((BitVec.toNat (BitVec.ofInt 64 (e : Int) &&& BitVec.ofInt 64 1)) : Nat) : Int) == 0) = false := bne_t hV
      cases hL : (IntKind.wrap .i64 (((BitVec.toNat (BitVec.ofInt 64 (e : Int) &&& BitVec.ofInt 64 14)) : Nat) : Int) != 0) with
      | true => exact ⟨s, m, m1, m2, 9, rfl, hw, fun k => by rw [hk2, cond_false, hV, cond_true, oK_some_eq, hL, cond_true]⟩
      | false => exact ⟨s1, m, m1, m2, c1, hs1, hw, fun k => by rw [hk2, cond_false, hV, cond_true, oK_some_eq, hL, cond_false, hV', cond_false]; exact hlast (fun s c => k s m m1 m2 c)⟩
    | false =>
      have hV' : (IntKind.wrap .i64 (((BitVec.toNat (BitVec.ofInt 64 (e : Int) &&& BitVec.ofInt 64 1)) : Nat) : Int) == 0) = true := bne_f hV
      by_cases h0 : m1 = 0
      · exact ⟨s, m, m1, m2, 4, rfl, hw, fun k => by rw [hk2, cond_false, hV, cond_false, oK_some_eq, cond_false, hV', cond_true, beq_dec, decide_eq_true (show (m1 : Int) = 0 by omega), cond_true]⟩
      · obtain ⟨x, hx⟩ := nth_some (l := l) (n := 0 + m) (by omega)
        obtain ⟨y, rfl, hy⟩ := hl x (nth_mem hx)
        have ey : IntKind.wrap .i64 ((y : Int) * 256) = ((y * 256 : Nat) : Int) := by rw [w64 (by omega) (by omega)]; omega
        have ey1 : IntKind.wrap .i64 (IntKind.wrap .i64 ((y : Int) + 1) * 256) = (((y + 1) * 256 : Nat) : Int) := by rw [w64 (n := (y : Int) + 1) (by omega) (by omega), w64 (by omega) (by omega)]; omega
        have eo : IntKind.wrap .i64 (((BitVec.toNat (BitVec.ofInt 64 ((y * 256 : Nat) : Int) ||| BitVec.ofInt 64 (1 : Int))) : Nat) : Int) = ((y * 256 ||| 1 : Nat) : Int) := or_nat (a := y * 256) (b := 1) (by omega) (by omega)
        have ho : y * 256 ||| 1 < 2 ^ 17 := Nat.or_lt_two_pow (by omega) (by omega)
        have hz : (toBytes (seg (List.replicate 256 (0 : Int)) 0 256)).size = 256 := by
          have hq := seg_all (List.replicate 256 (0 : Int))
          rw [List.length_replicate] at hq
          rw [hq, toBytes_size, List.length_replicate]
        have hS : ((s.extract 0 (y * 256) ++ toBytes (seg (List.replicate 256 (0 : Int)) 0 256)) ++ s.extract ((y + 1) * 256) s.size).size = s.size := by
          rw [ByteArray.size_append, ByteArray.size_append, hz, ByteArray.size_extract, ByteArray.size_extract]; omega
        have g1 : (s.extract 0 (y * 256)).size = y * 256 := by rw [ByteArray.size_extract]; omega
        have g2 : (s.extract ((y + 1) * 256) s.size).size = s.size - (y + 1) * 256 := by rw [ByteArray.size_extract]; omega
        have q1 : Nat.ble ((s.extract 0 (y * 256)).size + 256) 9223372036854775807 = true := ble_max (by rw [g1]; exact fr1 hy hs)
        have q2 : Nat.ble ((s.extract 0 (y * 256) ++ toBytes (seg (List.replicate 256 (0 : Int)) 0 256)).size + (s.extract ((y + 1) * 256) s.size).size) 9223372036854775807 = true := ble_max (by rw [ByteArray.size_append, g1, g2, hz]; exact fr2 hy hs)
        generalize hSS : (s.extract 0 (y * 256) ++ toBytes (seg (List.replicate 256 (0 : Int)) 0 256)) ++ s.extract ((y + 1) * 256) s.size = S at hS
        have hT := setWord_size (s := S) (i := r * 256 + 4 * (v / 8192)) (by omega) ((y * 256 ||| 1 : Nat) : Int)
        obtain ⟨s2, c2, hs2, hlast2⟩ := map_last (R := R) N (s := setWord S (r * 256 + 4 * (v / 8192)) ((y * 256 ||| 1 : Nat) : Int)) (e := y * 256 ||| 1) (v := v) (w := IntKind.wrap .i64 (((BitVec.toNat (BitVec.ofInt 64 (IntKind.wrap .i64 (((BitVec.toNat (BitVec.ofInt 64 (IntKind.wrap .i64 (n2 * 256)) ||| BitVec.ofInt 64 n3)) : Nat) : Int)) ||| BitVec.ofInt 64 1)) : Nat) : Int)) (by omega) (by omega) hv
        refine ⟨s2, 1 + m, (Int.toNat (m1 : Int)) - 1, (m1 + m2) - Int.toNat (m1 : Int), c2, by omega, by omega, fun k => ?_⟩
        rw [hk2, cond_false, hV, cond_false, oK_some_eq, cond_false, hV', cond_true, beq_dec, decide_eq_false (show ¬ (m1 : Int) = 0 by omega), cond_false, decide_eq_true (show (0 : Int) < (m1 : Int) by omega), cond_true, elemK_some hx,
          decide_eq_true (show (1 : Int) ≤ (m1 : Int) by omega), decide_eq_true (show (m1 : Int) ≤ ((m1 + m2 : Nat) : Int) by omega), Bool.and_self, cond_true, ey, ey1, eo, dec_nn, decide_eq_true (show ((y * 256 : Nat) : Int) ≤ (s.size : Int) by omega), Bool.and_self, cond_true, Int.toNat_natCast, Int.toNat_natCast, Int.toNat_natCast,
          q1, cond_true, dec_nn, decide_eq_true (show (((y + 1) * 256 : Nat) : Int) ≤ (s.size : Int) by omega), decide_eq_true (Int.le_refl (s.size : Int)), Bool.and_self, Bool.and_self, cond_true, q2, cond_true, hSS, spec_SetWord_eq N (by omega) (by omega)]
        exact hlast2 (fun s c => k s (1 + m) ((Int.toNat (m1 : Int)) - 1) ((m1 + m2) - Int.toNat (m1 : Int)) c)


theorem map_w {s : ByteArray} {r : Nat} {n1 n2 n3 : Int} {b b1 : Bool} {l : List Int} (hs : s.size ≤ 65536) (h256 : s.size % 256 = 0) (hr : r < s.size / 256) (hl : ∀ x ∈ l, ∃ y : Nat, x = (y : Int) ∧ y < s.size / 256) :
    ∃ (s' : ByteArray) (c : Int), s'.size = s.size ∧ ((∀ (k : ByteArray → Int → Option R) (k1 : ByteArray → Nat → Nat → Int → Option R), g_spec_l03Map_w N s (r : Int) n1 n2 n3 b b1 l k k1 = k s' c) ∨
      ∃ m' m1' : Nat, 1 + m' ≤ l.length ∧ ∀ (k : ByteArray → Int → Option R) (k1 : ByteArray → Nat → Nat → Int → Option R), g_spec_l03Map_w N s (r : Int) n1 n2 n3 b b1 l k k1 = k1 s' m' m1' c) := by
  have hj : ∀ (k : ByteArray → Int → Option R) (k1 : ByteArray → Nat → Nat → Int → Option R), g_spec_l03Map_w N s (r : Int) n1 n2 n3 b b1 l k k1 = oK (cond b (some (8192 : Int)) (some (256 : Int))) fun j => oK (cond (decide (n1 < 0)) (some true) (cond (decide (n1 ≥ 262144)) (some true) (mapForm n1 n2 n3 j b))) _ := fun k k1 => rfl
  by_cases hv0 : n1 < 0
  · exact ⟨s, 1, rfl, .inl (fun k k1 => by rw [hj]; cases b <;> (rw [decide_eq_true hv0]; rfl))⟩
  by_cases hv1 : n1 ≥ 262144
  · exact ⟨s, 1, rfl, .inl (fun k k1 => by rw [hj]; cases b <;> (rw [decide_eq_true hv1, decide_eq_false hv0]; rfl))⟩
  obtain ⟨v, rfl⟩ := Int.eq_ofNat_of_zero_le (show 0 ≤ n1 by omega)
  have hv : v < 262144 := by omega
  obtain ⟨bad, hbad⟩ := mapForm_ex (v : Int) n2 n3 (cond b 8192 256) b (by cases b <;> decide)
  have hc : (cond b (some (8192 : Int)) (some (256 : Int))) = some (cond b 8192 256) := by cases b <;> rfl
  have hk : ∀ (k : ByteArray → Int → Option R) (k1 : ByteArray → Nat → Nat → Int → Option R), g_spec_l03Map_w N s (r : Int) v n2 n3 b b1 l k k1 = cond bad (k s 1) _ := fun k k1 => by
    rw [hj, hc, oK_some_eq, decide_eq_false hv0, cond_false, decide_eq_false hv1, cond_false, hbad, oK_some_eq]
  cases bad with
  | true => exact ⟨s, 1, rfl, .inl (fun k k1 => by rw [hk]; rfl)⟩
  | false =>
  have hd : v / 8192 < 32 := by omega
  have hat : (r * 256 + 4 * (v / 8192)) + 4 ≤ s.size := by omega
  have he := wordN_lt s (r * 256 + 4 * (v / 8192))
  generalize hw0 : wordN s (r * 256 + 4 * (v / 8192)) = e at he
  have hk2 : ∀ (k : ByteArray → Int → Option R) (k1 : ByteArray → Nat → Nat → Int → Option R), g_spec_l03Map_w N s (r : Int) v n2 n3 b b1 l k k1 = _ := fun k k1 => by
    rw [hk, cond_false, at_eq (by omega) hv, spec_l01Word_eq N hat (by omega), wordN_cast, hw0]
  obtain ⟨s1, c1, hs1, hlast⟩ := map_last (R := R) N (s := s) (e := e) (v := v) (w := IntKind.wrap .i64 (((BitVec.toNat (BitVec.ofInt 64 (IntKind.wrap .i64 (((BitVec.toNat (BitVec.ofInt 64 (IntKind.wrap .i64 (n2 * 256)) ||| BitVec.ofInt 64 n3)) : Nat) : Int)) ||| BitVec.ofInt 64 1)) : Nat) : Int)) hs (by omega) hv
  cases b with
  | true =>
    cases hV : (IntKind.wrap .i64 (((BitVec.toNat (BitVec.ofInt 64 (e : Int) &&& BitVec.ofInt 64 1)) : Nat) : Int) != 0) with
    | true => exact ⟨s, 9, rfl, .inl (fun k k1 => by rw [hk2, cond_true, hV, cond_true])⟩
    | false => exact ⟨setWord s (r * 256 + 4 * (v / 8192)) _, 0, setWord_size hat _, .inl (fun k k1 => by rw [hk2, cond_true, hV, cond_false, spec_SetWord_eq N hat hs])⟩
  | false =>
    cases hV : (IntKind.wrap .i64 (((BitVec.toNat (BitVec.ofInt 64 (e : Int) &&& BitVec.ofInt 64 1)) : Nat) : Int) != 0) with
    | true =>
      have hV' : (IntKind.wrap .i64 (((BitVec.toNat (BitVec.ofInt 64 (e : Int) &&& BitVec.ofInt 64 1)) : Nat) : Int) == 0) = false := bne_t hV
      cases hL : (IntKind.wrap .i64 (((BitVec.toNat (BitVec.ofInt 64 (e : Int) &&& BitVec.ofInt 64 14)) : Nat) : Int) != 0) with
      | true => exact ⟨s, 9, rfl, .inl (fun k k1 => by rw [hk2, cond_false, hV, cond_true, oK_some_eq, hL, cond_true])⟩
      | false => exact ⟨s1, c1, hs1, .inl (fun k k1 => by rw [hk2, cond_false, hV, cond_true, oK_some_eq, hL, cond_false, hV', cond_false]; exact hlast k)⟩
    | false =>
      have hV' : (IntKind.wrap .i64 (((BitVec.toNat (BitVec.ofInt 64 (e : Int) &&& BitVec.ofInt 64 1)) : Nat) : Int) == 0) = true := bne_f hV
      by_cases h0 : l.length = 0
      · exact ⟨s, 4, rfl, .inl (fun k k1 => by rw [hk2, cond_false, hV, cond_false, oK_some_eq, cond_false, hV', cond_true, beq_dec, decide_eq_true (show (l.length : Int) = 0 by omega), cond_true])⟩
      · obtain ⟨x, hx⟩ := nth_some (l := l) (n := 0) (by omega)
        obtain ⟨y, rfl, hy⟩ := hl x (nth_mem hx)
        have ey : IntKind.wrap .i64 ((y : Int) * 256) = ((y * 256 : Nat) : Int) := by rw [w64 (by omega) (by omega)]; omega
        have ey1 : IntKind.wrap .i64 (IntKind.wrap .i64 ((y : Int) + 1) * 256) = (((y + 1) * 256 : Nat) : Int) := by rw [w64 (n := (y : Int) + 1) (by omega) (by omega), w64 (by omega) (by omega)]; omega
        have eo : IntKind.wrap .i64 (((BitVec.toNat (BitVec.ofInt 64 ((y * 256 : Nat) : Int) ||| BitVec.ofInt 64 (1 : Int))) : Nat) : Int) = ((y * 256 ||| 1 : Nat) : Int) := or_nat (a := y * 256) (b := 1) (by omega) (by omega)
        have ho : y * 256 ||| 1 < 2 ^ 17 := Nat.or_lt_two_pow (by omega) (by omega)
        have hz : (toBytes (seg (List.replicate 256 (0 : Int)) 0 256)).size = 256 := by
          have hq := seg_all (List.replicate 256 (0 : Int))
          rw [List.length_replicate] at hq
          rw [hq, toBytes_size, List.length_replicate]
        have hS : ((s.extract 0 (y * 256) ++ toBytes (seg (List.replicate 256 (0 : Int)) 0 256)) ++ s.extract ((y + 1) * 256) s.size).size = s.size := by
          rw [ByteArray.size_append, ByteArray.size_append, hz, ByteArray.size_extract, ByteArray.size_extract]; omega
        have g1 : (s.extract 0 (y * 256)).size = y * 256 := by rw [ByteArray.size_extract]; omega
        have g2 : (s.extract ((y + 1) * 256) s.size).size = s.size - (y + 1) * 256 := by rw [ByteArray.size_extract]; omega
        have q1 : Nat.ble ((s.extract 0 (y * 256)).size + 256) 9223372036854775807 = true := ble_max (by rw [g1]; exact fr1 hy hs)
        have q2 : Nat.ble ((s.extract 0 (y * 256) ++ toBytes (seg (List.replicate 256 (0 : Int)) 0 256)).size + (s.extract ((y + 1) * 256) s.size).size) 9223372036854775807 = true := ble_max (by rw [ByteArray.size_append, g1, g2, hz]; exact fr2 hy hs)
        generalize hSS : (s.extract 0 (y * 256) ++ toBytes (seg (List.replicate 256 (0 : Int)) 0 256)) ++ s.extract ((y + 1) * 256) s.size = S at hS
        have hT := setWord_size (s := S) (i := r * 256 + 4 * (v / 8192)) (by omega) ((y * 256 ||| 1 : Nat) : Int)
        obtain ⟨s2, c2, hs2, hlast2⟩ := map_last (R := R) N (s := setWord S (r * 256 + 4 * (v / 8192)) ((y * 256 ||| 1 : Nat) : Int)) (e := y * 256 ||| 1) (v := v) (w := IntKind.wrap .i64 (((BitVec.toNat (BitVec.ofInt 64 (IntKind.wrap .i64 (((BitVec.toNat (BitVec.ofInt 64 (IntKind.wrap .i64 (n2 * 256)) ||| BitVec.ofInt 64 n3)) : Nat) : Int)) ||| BitVec.ofInt 64 1)) : Nat) : Int)) (by omega) (by omega) hv
        refine ⟨s2, c2, by omega, .inr ⟨(Int.toNat (l.length : Int)) - 1, l.length - Int.toNat (l.length : Int), by omega, fun k k1 => ?_⟩⟩
        rw [hk2, cond_false, hV, cond_false, oK_some_eq, cond_false, hV', cond_true, beq_dec, decide_eq_false (show ¬ (l.length : Int) = 0 by omega), cond_false, decide_eq_true (show (0 : Int) < (l.length : Int) by omega), cond_true, elemK_some hx,
          decide_eq_true (show (1 : Int) ≤ (l.length : Int) by omega), decide_eq_true (Int.le_refl (l.length : Int)), Bool.and_self, cond_true, ey, ey1, eo, dec_nn, decide_eq_true (show ((y * 256 : Nat) : Int) ≤ (s.size : Int) by omega), Bool.and_self, cond_true, Int.toNat_natCast, Int.toNat_natCast, Int.toNat_natCast,
          q1, cond_true, dec_nn, decide_eq_true (show (((y + 1) * 256 : Nat) : Int) ≤ (s.size : Int) by omega), decide_eq_true (Int.le_refl (s.size : Int)), Bool.and_self, Bool.and_self, cond_true, q2, cond_true, hSS, spec_SetWord_eq N (by omega) (by omega)]
        exact hlast2 (fun s c => k1 s ((Int.toNat (l.length : Int)) - 1) (l.length - Int.toNat (l.length : Int)) c)


theorem mapsv_ww_go {r : Nat} {b11 b12 b13 : Bool} {l10 : List PageMap} {l11 l12 l13 : List Int} {n14 n15 : Int} {s8 : ByteArray} (hlen : l10.length ≤ 1000) :
    ∀ (d f i : Nat) (s : ByteArray) (m m1 m2 : Nat), i + d = l10.length → d < f → s.size ≤ 65536 → s.size % 256 = 0 → r < s.size / 256 → m + m1 ≤ l13.length → (∀ x ∈ l13, ∃ y : Nat, x = (y : Int) ∧ y < s.size / 256) →
    ∃ (s' : ByteArray) (m' m1' m2' : Nat), s'.size = s.size ∧ m' + m1' ≤ l13.length ∧
      ((∃ c p : Int, c ≠ 0 ∧ ∀ (kR : ByteArray → Nat → Nat → Nat → Bool → (List PageMap) → (List Int) → Int → Int → (List Int) → Option R) (kN : ByteArray → Nat → Nat → Nat → Bool → (List PageMap) → (List Int) → Int → Int → ByteArray → Bool → (List Int) → (List Int) → Option R), l_spec_MapPages_ww_2 N (r : Int) b11 b12 l10 l11 n14 n15 s8 b13 l12 l13 kR kN f s m m1 m2 (i : Int) = kR s' m' m1' m2' b12 l10 l11 c p l13) ∨
       ∀ (kR : ByteArray → Nat → Nat → Nat → Bool → (List PageMap) → (List Int) → Int → Int → (List Int) → Option R) (kN : ByteArray → Nat → Nat → Nat → Bool → (List PageMap) → (List Int) → Int → Int → ByteArray → Bool → (List Int) → (List Int) → Option R), l_spec_MapPages_ww_2 N (r : Int) b11 b12 l10 l11 n14 n15 s8 b13 l12 l13 kR kN f s m m1 m2 (i : Int) = kN s' m' m1' m2' b12 l10 l11 n14 n15 s8 b13 l12 l13) := by
  intro d
  induction d with
  | zero =>
    intro f i s m m1 m2 hi hf _ _ _ hw _
    obtain ⟨f, rfl⟩ : ∃ j, f = j + 1 := ⟨f - 1, by omega⟩
    refine ⟨s, m, m1, m2, rfl, hw, .inr fun kR kN => ?_⟩
    rw [l_spec_MapPages_ww_2, s_spec_MapPages_ww_2, decide_eq_false (show ¬ (i : Int) < (l10.length : Int) by omega), cond_false]
  | succ d ih =>
    intro f i s m m1 m2 hi hf hs h256 hr hw hl
    obtain ⟨f, rfl⟩ : ∃ j, f = j + 1 := ⟨f - 1, by omega⟩
    have hlt : i < l10.length := by omega
    obtain ⟨x, hx⟩ := nth_some hlt
    obtain ⟨s1, p, p1, p2, c, hs1, hw1, h1⟩ := map_v1 (R := R) N (n1 := x.fVa) (n2 := x.fFrame) (n3 := x.fFlags) (b := x.fLarge) (b1 := b12) (m2 := m2) hs h256 hr hw hl
    cases hc : (c != 0) with
    | true =>
      refine ⟨s1, p, p1, p2, hs1, hw1, .inl ⟨c, (i : Int), by simpa using hc, fun kR kN => ?_⟩⟩
      rw [l_spec_MapPages_ww_2, s_spec_MapPages_ww_2, dec_lt hlt, cond_true, dec_nn, Bool.and_self, cond_true, Int.toNat_natCast, elemK_some hx, h1, hc, cond_true]
    | false =>
      obtain ⟨s', m', m1', m2', g1, g2, g3⟩ := ih f (i + 1) s1 p p1 p2 (by omega) (by omega) (by omega) (by omega) (by omega) hw1 (by rw [hs1]; exact hl)
      have hst : ∀ (kR : ByteArray → Nat → Nat → Nat → Bool → (List PageMap) → (List Int) → Int → Int → (List Int) → Option R) (kN : ByteArray → Nat → Nat → Nat → Bool → (List PageMap) → (List Int) → Int → Int → ByteArray → Bool → (List Int) → (List Int) → Option R), l_spec_MapPages_ww_2 N (r : Int) b11 b12 l10 l11 n14 n15 s8 b13 l12 l13 kR kN (f + 1) s m m1 m2 (i : Int) = l_spec_MapPages_ww_2 N (r : Int) b11 b12 l10 l11 n14 n15 s8 b13 l12 l13 kR kN f s1 p p1 p2 ((i + 1 : Nat) : Int) := fun kR kN => by
        rw [l_spec_MapPages_ww_2, s_spec_MapPages_ww_2, dec_lt hlt, cond_true, dec_nn, Bool.and_self, cond_true, Int.toNat_natCast, elemK_some hx, h1, hc, cond_false, wrap_next hlt (by omega)]
      refine ⟨s', m', m1', m2', by omega, g2, ?_⟩
      rcases g3 with ⟨c', q, hc', g3⟩ | g3
      · exact .inl ⟨c', q, hc', fun kR kN => by rw [hst]; exact g3 kR kN⟩
      · exact .inr fun kR kN => by rw [hst]; exact g3 kR kN

theorem mapsv_rw_go {r : Nat} {b11 b12 b13 : Bool} {l10 : List PageMap} {l11 l12 l13 : List Int} {n14 n15 : Int} {s8 : ByteArray} (hlen : l10.length ≤ 1000) :
    ∀ (d f i : Nat) (s : ByteArray) (m m1 m2 : Nat), i + d = l10.length → d < f → s.size ≤ 65536 → s.size % 256 = 0 → r < s.size / 256 → m + m1 ≤ l13.length → (∀ x ∈ l13, ∃ y : Nat, x = (y : Int) ∧ y < s.size / 256) →
    ∃ (s' : ByteArray) (m' m1' m2' : Nat), s'.size = s.size ∧ m' + m1' ≤ l13.length ∧
      ((∃ c p : Int, c ≠ 0 ∧ ∀ (kR : ByteArray → Nat → Nat → Nat → Bool → (List PageMap) → (List Int) → Int → Int → (List Int) → Option R) (kN : ByteArray → Nat → Nat → Nat → Bool → (List PageMap) → (List Int) → Int → Int → ByteArray → Bool → (List Int) → (List Int) → Option R), l_spec_MapPages_rw_2 N (r : Int) b11 b12 l10 l11 n14 n15 s8 b13 l12 l13 kR kN f s m m1 m2 (i : Int) = kR s' m' m1' m2' b12 l10 l11 c p l13) ∨
       ∀ (kR : ByteArray → Nat → Nat → Nat → Bool → (List PageMap) → (List Int) → Int → Int → (List Int) → Option R) (kN : ByteArray → Nat → Nat → Nat → Bool → (List PageMap) → (List Int) → Int → Int → ByteArray → Bool → (List Int) → (List Int) → Option R), l_spec_MapPages_rw_2 N (r : Int) b11 b12 l10 l11 n14 n15 s8 b13 l12 l13 kR kN f s m m1 m2 (i : Int) = kN s' m' m1' m2' b12 l10 l11 n14 n15 s8 b13 l12 l13) := by
  intro d
  induction d with
  | zero =>
    intro f i s m m1 m2 hi hf _ _ _ hw _
    obtain ⟨f, rfl⟩ : ∃ j, f = j + 1 := ⟨f - 1, by omega⟩
    refine ⟨s, m, m1, m2, rfl, hw, .inr fun kR kN => ?_⟩
    rw [l_spec_MapPages_rw_2, s_spec_MapPages_rw_2, decide_eq_false (show ¬ (i : Int) < (l10.length : Int) by omega), cond_false]
  | succ d ih =>
    intro f i s m m1 m2 hi hf hs h256 hr hw hl
    obtain ⟨f, rfl⟩ : ∃ j, f = j + 1 := ⟨f - 1, by omega⟩
    have hlt : i < l10.length := by omega
    obtain ⟨x, hx⟩ := nth_some hlt
    obtain ⟨s1, p, p1, p2, c, hs1, hw1, h1⟩ := map_v1 (R := R) N (n1 := x.fVa) (n2 := x.fFrame) (n3 := x.fFlags) (b := x.fLarge) (b1 := b12) (m2 := m2) hs h256 hr hw hl
    cases hc : (c != 0) with
    | true =>
      refine ⟨s1, p, p1, p2, hs1, hw1, .inl ⟨c, (i : Int), by simpa using hc, fun kR kN => ?_⟩⟩
      rw [l_spec_MapPages_rw_2, s_spec_MapPages_rw_2, dec_lt hlt, cond_true, dec_nn, Bool.and_self, cond_true, Int.toNat_natCast, elemK_some hx, h1, hc, cond_true]
    | false =>
      obtain ⟨s', m', m1', m2', g1, g2, g3⟩ := ih f (i + 1) s1 p p1 p2 (by omega) (by omega) (by omega) (by omega) (by omega) hw1 (by rw [hs1]; exact hl)
      have hst : ∀ (kR : ByteArray → Nat → Nat → Nat → Bool → (List PageMap) → (List Int) → Int → Int → (List Int) → Option R) (kN : ByteArray → Nat → Nat → Nat → Bool → (List PageMap) → (List Int) → Int → Int → ByteArray → Bool → (List Int) → (List Int) → Option R), l_spec_MapPages_rw_2 N (r : Int) b11 b12 l10 l11 n14 n15 s8 b13 l12 l13 kR kN (f + 1) s m m1 m2 (i : Int) = l_spec_MapPages_rw_2 N (r : Int) b11 b12 l10 l11 n14 n15 s8 b13 l12 l13 kR kN f s1 p p1 p2 ((i + 1 : Nat) : Int) := fun kR kN => by
        rw [l_spec_MapPages_rw_2, s_spec_MapPages_rw_2, dec_lt hlt, cond_true, dec_nn, Bool.and_self, cond_true, Int.toNat_natCast, elemK_some hx, h1, hc, cond_false, wrap_next hlt (by omega)]
      refine ⟨s', m', m1', m2', by omega, g2, ?_⟩
      rcases g3 with ⟨c', q, hc', g3⟩ | g3
      · exact .inl ⟨c', q, hc', fun kR kN => by rw [hst]; exact g3 kR kN⟩
      · exact .inr fun kR kN => by rw [hst]; exact g3 kR kN


theorem mapsw_ww_go {r : Nat} {b8 b9 b10 : Bool} {l6 : List PageMap} {l7 l8 l9 : List Int} {n8 n9 : Int} {s4 : ByteArray} (hlen : l6.length ≤ 1000) :
    ∀ (d f i : Nat) (s : ByteArray), i + d = l6.length → d < f → s.size ≤ 65536 → s.size % 256 = 0 → r < s.size / 256 → (∀ x ∈ l9, ∃ y : Nat, x = (y : Int) ∧ y < s.size / 256) →
    ∃ s' : ByteArray, s'.size = s.size ∧
      ((∃ c p : Int, c ≠ 0 ∧ ∀ (kRb : ByteArray → Int → Int → Option R) (kRb_1 : ByteArray → Nat → Nat → Int → Int → Option R) (kNb : ByteArray → Option R) (kR : ByteArray → Nat → Nat → Nat → Bool → (List PageMap) → (List Int) → Int → Int → (List Int) → Option R) (kN : ByteArray → Nat → Nat → Nat → Bool → (List PageMap) → (List Int) → Int → Int → ByteArray → Bool → (List Int) → (List Int) → Option R), l_spec_MapPages_ww_2b1 N (r : Int) b8 b9 l6 l7 n8 n9 s4 b10 l8 l9 kRb kRb_1 kNb kR kN f s (i : Int) = kRb s' c p) ∨
       (∃ (m m1 : Nat) (c p : Int), c ≠ 0 ∧ ∀ (kRb : ByteArray → Int → Int → Option R) (kRb_1 : ByteArray → Nat → Nat → Int → Int → Option R) (kNb : ByteArray → Option R) (kR : ByteArray → Nat → Nat → Nat → Bool → (List PageMap) → (List Int) → Int → Int → (List Int) → Option R) (kN : ByteArray → Nat → Nat → Nat → Bool → (List PageMap) → (List Int) → Int → Int → ByteArray → Bool → (List Int) → (List Int) → Option R), l_spec_MapPages_ww_2b1 N (r : Int) b8 b9 l6 l7 n8 n9 s4 b10 l8 l9 kRb kRb_1 kNb kR kN f s (i : Int) = kRb_1 s' m m1 c p) ∨
       (∀ (kRb : ByteArray → Int → Int → Option R) (kRb_1 : ByteArray → Nat → Nat → Int → Int → Option R) (kNb : ByteArray → Option R) (kR : ByteArray → Nat → Nat → Nat → Bool → (List PageMap) → (List Int) → Int → Int → (List Int) → Option R) (kN : ByteArray → Nat → Nat → Nat → Bool → (List PageMap) → (List Int) → Int → Int → ByteArray → Bool → (List Int) → (List Int) → Option R), l_spec_MapPages_ww_2b1 N (r : Int) b8 b9 l6 l7 n8 n9 s4 b10 l8 l9 kRb kRb_1 kNb kR kN f s (i : Int) = kNb s') ∨
       (∃ (m m1 m2 : Nat) (c p : Int), c ≠ 0 ∧ ∀ (kRb : ByteArray → Int → Int → Option R) (kRb_1 : ByteArray → Nat → Nat → Int → Int → Option R) (kNb : ByteArray → Option R) (kR : ByteArray → Nat → Nat → Nat → Bool → (List PageMap) → (List Int) → Int → Int → (List Int) → Option R) (kN : ByteArray → Nat → Nat → Nat → Bool → (List PageMap) → (List Int) → Int → Int → ByteArray → Bool → (List Int) → (List Int) → Option R), l_spec_MapPages_ww_2b1 N (r : Int) b8 b9 l6 l7 n8 n9 s4 b10 l8 l9 kRb kRb_1 kNb kR kN f s (i : Int) = kR s' m m1 m2 b9 l6 l7 c p l9) ∨
       (∃ (m m1 m2 : Nat), m + m1 ≤ l9.length ∧ ∀ (kRb : ByteArray → Int → Int → Option R) (kRb_1 : ByteArray → Nat → Nat → Int → Int → Option R) (kNb : ByteArray → Option R) (kR : ByteArray → Nat → Nat → Nat → Bool → (List PageMap) → (List Int) → Int → Int → (List Int) → Option R) (kN : ByteArray → Nat → Nat → Nat → Bool → (List PageMap) → (List Int) → Int → Int → ByteArray → Bool → (List Int) → (List Int) → Option R), l_spec_MapPages_ww_2b1 N (r : Int) b8 b9 l6 l7 n8 n9 s4 b10 l8 l9 kRb kRb_1 kNb kR kN f s (i : Int) = kN s' m m1 m2 b9 l6 l7 n8 n9 s4 b10 l8 l9)) := by
  intro d
  induction d with
  | zero =>
    intro f i s hi hf _ _ _ _
    obtain ⟨f, rfl⟩ : ∃ j, f = j + 1 := ⟨f - 1, by omega⟩
    refine ⟨s, rfl, .inr (.inr (.inl fun kRb kRb_1 kNb kR kN => ?_))⟩
    rw [l_spec_MapPages_ww_2b1, s_spec_MapPages_ww_2b1, decide_eq_false (show ¬ (i : Int) < (l6.length : Int) by omega), cond_false]
  | succ d ih =>
    intro f i s hi hf hs h256 hr hl
    obtain ⟨f, rfl⟩ : ∃ j, f = j + 1 := ⟨f - 1, by omega⟩
    have hlt : i < l6.length := by omega
    obtain ⟨x, hx⟩ := nth_some hlt
    obtain ⟨s1, c, hs1, h1⟩ := map_w (R := R) N (n1 := x.fVa) (n2 := x.fFrame) (n3 := x.fFlags) (b := x.fLarge) (b1 := b9) hs h256 hr hl
    rcases h1 with h1 | ⟨p, p1, hp, h1⟩
    · cases hc : (c != 0) with
      | true =>
        refine ⟨s1, hs1, .inl ⟨c, (i : Int), by simpa using hc, fun kRb kRb_1 kNb kR kN => ?_⟩⟩
        rw [l_spec_MapPages_ww_2b1, s_spec_MapPages_ww_2b1, dec_lt hlt, cond_true, dec_nn, Bool.and_self, cond_true, Int.toNat_natCast, elemK_some hx, h1, hc, cond_true]
      | false =>
        obtain ⟨s', g1, g3⟩ := ih f (i + 1) s1 (by omega) (by omega) (by omega) (by omega) (by omega) (by rw [hs1]; exact hl)
        have hst : ∀ (kRb : ByteArray → Int → Int → Option R) (kRb_1 : ByteArray → Nat → Nat → Int → Int → Option R) (kNb : ByteArray → Option R) (kR : ByteArray → Nat → Nat → Nat → Bool → (List PageMap) → (List Int) → Int → Int → (List Int) → Option R) (kN : ByteArray → Nat → Nat → Nat → Bool → (List PageMap) → (List Int) → Int → Int → ByteArray → Bool → (List Int) → (List Int) → Option R), l_spec_MapPages_ww_2b1 N (r : Int) b8 b9 l6 l7 n8 n9 s4 b10 l8 l9 kRb kRb_1 kNb kR kN (f + 1) s (i : Int) = l_spec_MapPages_ww_2b1 N (r : Int) b8 b9 l6 l7 n8 n9 s4 b10 l8 l9 kRb kRb_1 kNb kR kN f s1 ((i + 1 : Nat) : Int) := fun kRb kRb_1 kNb kR kN => by
          rw [l_spec_MapPages_ww_2b1, s_spec_MapPages_ww_2b1, dec_lt hlt, cond_true, dec_nn, Bool.and_self, cond_true, Int.toNat_natCast, elemK_some hx, h1, hc, cond_false, wrap_next hlt (by omega)]
        refine ⟨s', by omega, ?_⟩
        rcases g3 with ⟨c', q, hc', g3⟩ | ⟨m, m1, c', q, hc', g3⟩ | g3 | ⟨m, m1, m2, c', q, hc', g3⟩ | ⟨m, m1, m2, hm, g3⟩
        · exact .inl ⟨c', q, hc', fun kRb kRb_1 kNb kR kN => by rw [hst]; exact g3 _ _ _ _ _⟩
        · exact .inr (.inl ⟨m, m1, c', q, hc', fun kRb kRb_1 kNb kR kN => by rw [hst]; exact g3 _ _ _ _ _⟩)
        · exact .inr (.inr (.inl fun kRb kRb_1 kNb kR kN => by rw [hst]; exact g3 _ _ _ _ _))
        · exact .inr (.inr (.inr (.inl ⟨m, m1, m2, c', q, hc', fun kRb kRb_1 kNb kR kN => by rw [hst]; exact g3 _ _ _ _ _⟩)))
        · exact .inr (.inr (.inr (.inr ⟨m, m1, m2, hm, fun kRb kRb_1 kNb kR kN => by rw [hst]; exact g3 _ _ _ _ _⟩)))
    · cases hc : (c != 0) with
      | true =>
        refine ⟨s1, hs1, .inr (.inl ⟨p, p1, c, (i : Int), by simpa using hc, fun kRb kRb_1 kNb kR kN => ?_⟩)⟩
        rw [l_spec_MapPages_ww_2b1, s_spec_MapPages_ww_2b1, dec_lt hlt, cond_true, dec_nn, Bool.and_self, cond_true, Int.toNat_natCast, elemK_some hx, h1, hc, cond_true]
      | false =>
        obtain ⟨s', m', m1', m2', g1, g2, g3⟩ := mapsv_ww_go (R := R) N (r := r) (b11 := b8) (b12 := b9) (b13 := b10) (l10 := l6) (l11 := l7) (l12 := l8) (l13 := l9) (n14 := n8) (n15 := n9) (s8 := s4) hlen d f (i + 1) s1 1 p p1 (by omega) (by omega) (by omega) (by omega) (by omega) hp (by rw [hs1]; exact hl)
        have hst : ∀ (kRb : ByteArray → Int → Int → Option R) (kRb_1 : ByteArray → Nat → Nat → Int → Int → Option R) (kNb : ByteArray → Option R) (kR : ByteArray → Nat → Nat → Nat → Bool → (List PageMap) → (List Int) → Int → Int → (List Int) → Option R) (kN : ByteArray → Nat → Nat → Nat → Bool → (List PageMap) → (List Int) → Int → Int → ByteArray → Bool → (List Int) → (List Int) → Option R), l_spec_MapPages_ww_2b1 N (r : Int) b8 b9 l6 l7 n8 n9 s4 b10 l8 l9 kRb kRb_1 kNb kR kN (f + 1) s (i : Int) = l_spec_MapPages_ww_2 N (r : Int) b8 b9 l6 l7 n8 n9 s4 b10 l8 l9 kR kN f s1 1 p p1 ((i + 1 : Nat) : Int) := fun kRb kRb_1 kNb kR kN => by
          rw [l_spec_MapPages_ww_2b1, s_spec_MapPages_ww_2b1, dec_lt hlt, cond_true, dec_nn, Bool.and_self, cond_true, Int.toNat_natCast, elemK_some hx, h1, hc, cond_false, wrap_next hlt (by omega)]
        refine ⟨s', by omega, ?_⟩
        rcases g3 with ⟨c', q, hc', g3⟩ | g3
        · exact .inr (.inr (.inr (.inl ⟨m', m1', m2', c', q, hc', fun kRb kRb_1 kNb kR kN => by rw [hst]; exact g3 _ _⟩)))
        · exact .inr (.inr (.inr (.inr ⟨m', m1', m2', g2, fun kRb kRb_1 kNb kR kN => by rw [hst]; exact g3 _ _⟩)))

theorem mapsw_rw_go {r : Nat} {b8 b9 b10 : Bool} {l6 : List PageMap} {l7 l8 l9 : List Int} {n8 n9 : Int} {s4 : ByteArray} (hlen : l6.length ≤ 1000) :
    ∀ (d f i : Nat) (s : ByteArray), i + d = l6.length → d < f → s.size ≤ 65536 → s.size % 256 = 0 → r < s.size / 256 → (∀ x ∈ l9, ∃ y : Nat, x = (y : Int) ∧ y < s.size / 256) →
    ∃ s' : ByteArray, s'.size = s.size ∧
      ((∃ c p : Int, c ≠ 0 ∧ ∀ (kRb : ByteArray → Int → Int → Option R) (kRb_1 : ByteArray → Nat → Nat → Int → Int → Option R) (kNb : ByteArray → Option R) (kR : ByteArray → Nat → Nat → Nat → Bool → (List PageMap) → (List Int) → Int → Int → (List Int) → Option R) (kN : ByteArray → Nat → Nat → Nat → Bool → (List PageMap) → (List Int) → Int → Int → ByteArray → Bool → (List Int) → (List Int) → Option R), l_spec_MapPages_rw_2b1 N (r : Int) b8 b9 l6 l7 n8 n9 s4 b10 l8 l9 kRb kRb_1 kNb kR kN f s (i : Int) = kRb s' c p) ∨
       (∃ (m m1 : Nat) (c p : Int), c ≠ 0 ∧ ∀ (kRb : ByteArray → Int → Int → Option R) (kRb_1 : ByteArray → Nat → Nat → Int → Int → Option R) (kNb : ByteArray → Option R) (kR : ByteArray → Nat → Nat → Nat → Bool → (List PageMap) → (List Int) → Int → Int → (List Int) → Option R) (kN : ByteArray → Nat → Nat → Nat → Bool → (List PageMap) → (List Int) → Int → Int → ByteArray → Bool → (List Int) → (List Int) → Option R), l_spec_MapPages_rw_2b1 N (r : Int) b8 b9 l6 l7 n8 n9 s4 b10 l8 l9 kRb kRb_1 kNb kR kN f s (i : Int) = kRb_1 s' m m1 c p) ∨
       (∀ (kRb : ByteArray → Int → Int → Option R) (kRb_1 : ByteArray → Nat → Nat → Int → Int → Option R) (kNb : ByteArray → Option R) (kR : ByteArray → Nat → Nat → Nat → Bool → (List PageMap) → (List Int) → Int → Int → (List Int) → Option R) (kN : ByteArray → Nat → Nat → Nat → Bool → (List PageMap) → (List Int) → Int → Int → ByteArray → Bool → (List Int) → (List Int) → Option R), l_spec_MapPages_rw_2b1 N (r : Int) b8 b9 l6 l7 n8 n9 s4 b10 l8 l9 kRb kRb_1 kNb kR kN f s (i : Int) = kNb s') ∨
       (∃ (m m1 m2 : Nat) (c p : Int), c ≠ 0 ∧ ∀ (kRb : ByteArray → Int → Int → Option R) (kRb_1 : ByteArray → Nat → Nat → Int → Int → Option R) (kNb : ByteArray → Option R) (kR : ByteArray → Nat → Nat → Nat → Bool → (List PageMap) → (List Int) → Int → Int → (List Int) → Option R) (kN : ByteArray → Nat → Nat → Nat → Bool → (List PageMap) → (List Int) → Int → Int → ByteArray → Bool → (List Int) → (List Int) → Option R), l_spec_MapPages_rw_2b1 N (r : Int) b8 b9 l6 l7 n8 n9 s4 b10 l8 l9 kRb kRb_1 kNb kR kN f s (i : Int) = kR s' m m1 m2 b9 l6 l7 c p l9) ∨
       (∃ (m m1 m2 : Nat), m + m1 ≤ l9.length ∧ ∀ (kRb : ByteArray → Int → Int → Option R) (kRb_1 : ByteArray → Nat → Nat → Int → Int → Option R) (kNb : ByteArray → Option R) (kR : ByteArray → Nat → Nat → Nat → Bool → (List PageMap) → (List Int) → Int → Int → (List Int) → Option R) (kN : ByteArray → Nat → Nat → Nat → Bool → (List PageMap) → (List Int) → Int → Int → ByteArray → Bool → (List Int) → (List Int) → Option R), l_spec_MapPages_rw_2b1 N (r : Int) b8 b9 l6 l7 n8 n9 s4 b10 l8 l9 kRb kRb_1 kNb kR kN f s (i : Int) = kN s' m m1 m2 b9 l6 l7 n8 n9 s4 b10 l8 l9)) := by
  intro d
  induction d with
  | zero =>
    intro f i s hi hf _ _ _ _
    obtain ⟨f, rfl⟩ : ∃ j, f = j + 1 := ⟨f - 1, by omega⟩
    refine ⟨s, rfl, .inr (.inr (.inl fun kRb kRb_1 kNb kR kN => ?_))⟩
    rw [l_spec_MapPages_rw_2b1, s_spec_MapPages_rw_2b1, decide_eq_false (show ¬ (i : Int) < (l6.length : Int) by omega), cond_false]
  | succ d ih =>
    intro f i s hi hf hs h256 hr hl
    obtain ⟨f, rfl⟩ : ∃ j, f = j + 1 := ⟨f - 1, by omega⟩
    have hlt : i < l6.length := by omega
    obtain ⟨x, hx⟩ := nth_some hlt
    obtain ⟨s1, c, hs1, h1⟩ := map_w (R := R) N (n1 := x.fVa) (n2 := x.fFrame) (n3 := x.fFlags) (b := x.fLarge) (b1 := b9) hs h256 hr hl
    rcases h1 with h1 | ⟨p, p1, hp, h1⟩
    · cases hc : (c != 0) with
      | true =>
        refine ⟨s1, hs1, .inl ⟨c, (i : Int), by simpa using hc, fun kRb kRb_1 kNb kR kN => ?_⟩⟩
        rw [l_spec_MapPages_rw_2b1, s_spec_MapPages_rw_2b1, dec_lt hlt, cond_true, dec_nn, Bool.and_self, cond_true, Int.toNat_natCast, elemK_some hx, h1, hc, cond_true]
      | false =>
        obtain ⟨s', g1, g3⟩ := ih f (i + 1) s1 (by omega) (by omega) (by omega) (by omega) (by omega) (by rw [hs1]; exact hl)
        have hst : ∀ (kRb : ByteArray → Int → Int → Option R) (kRb_1 : ByteArray → Nat → Nat → Int → Int → Option R) (kNb : ByteArray → Option R) (kR : ByteArray → Nat → Nat → Nat → Bool → (List PageMap) → (List Int) → Int → Int → (List Int) → Option R) (kN : ByteArray → Nat → Nat → Nat → Bool → (List PageMap) → (List Int) → Int → Int → ByteArray → Bool → (List Int) → (List Int) → Option R), l_spec_MapPages_rw_2b1 N (r : Int) b8 b9 l6 l7 n8 n9 s4 b10 l8 l9 kRb kRb_1 kNb kR kN (f + 1) s (i : Int) = l_spec_MapPages_rw_2b1 N (r : Int) b8 b9 l6 l7 n8 n9 s4 b10 l8 l9 kRb kRb_1 kNb kR kN f s1 ((i + 1 : Nat) : Int) := fun kRb kRb_1 kNb kR kN => by
          rw [l_spec_MapPages_rw_2b1, s_spec_MapPages_rw_2b1, dec_lt hlt, cond_true, dec_nn, Bool.and_self, cond_true, Int.toNat_natCast, elemK_some hx, h1, hc, cond_false, wrap_next hlt (by omega)]
        refine ⟨s', by omega, ?_⟩
        rcases g3 with ⟨c', q, hc', g3⟩ | ⟨m, m1, c', q, hc', g3⟩ | g3 | ⟨m, m1, m2, c', q, hc', g3⟩ | ⟨m, m1, m2, hm, g3⟩
        · exact .inl ⟨c', q, hc', fun kRb kRb_1 kNb kR kN => by rw [hst]; exact g3 _ _ _ _ _⟩
        · exact .inr (.inl ⟨m, m1, c', q, hc', fun kRb kRb_1 kNb kR kN => by rw [hst]; exact g3 _ _ _ _ _⟩)
        · exact .inr (.inr (.inl fun kRb kRb_1 kNb kR kN => by rw [hst]; exact g3 _ _ _ _ _))
        · exact .inr (.inr (.inr (.inl ⟨m, m1, m2, c', q, hc', fun kRb kRb_1 kNb kR kN => by rw [hst]; exact g3 _ _ _ _ _⟩)))
        · exact .inr (.inr (.inr (.inr ⟨m, m1, m2, hm, fun kRb kRb_1 kNb kR kN => by rw [hst]; exact g3 _ _ _ _ _⟩)))
    · cases hc : (c != 0) with
      | true =>
        refine ⟨s1, hs1, .inr (.inl ⟨p, p1, c, (i : Int), by simpa using hc, fun kRb kRb_1 kNb kR kN => ?_⟩)⟩
        rw [l_spec_MapPages_rw_2b1, s_spec_MapPages_rw_2b1, dec_lt hlt, cond_true, dec_nn, Bool.and_self, cond_true, Int.toNat_natCast, elemK_some hx, h1, hc, cond_true]
      | false =>
        obtain ⟨s', m', m1', m2', g1, g2, g3⟩ := mapsv_rw_go (R := R) N (r := r) (b11 := b8) (b12 := b9) (b13 := b10) (l10 := l6) (l11 := l7) (l12 := l8) (l13 := l9) (n14 := n8) (n15 := n9) (s8 := s4) hlen d f (i + 1) s1 1 p p1 (by omega) (by omega) (by omega) (by omega) (by omega) hp (by rw [hs1]; exact hl)
        have hst : ∀ (kRb : ByteArray → Int → Int → Option R) (kRb_1 : ByteArray → Nat → Nat → Int → Int → Option R) (kNb : ByteArray → Option R) (kR : ByteArray → Nat → Nat → Nat → Bool → (List PageMap) → (List Int) → Int → Int → (List Int) → Option R) (kN : ByteArray → Nat → Nat → Nat → Bool → (List PageMap) → (List Int) → Int → Int → ByteArray → Bool → (List Int) → (List Int) → Option R), l_spec_MapPages_rw_2b1 N (r : Int) b8 b9 l6 l7 n8 n9 s4 b10 l8 l9 kRb kRb_1 kNb kR kN (f + 1) s (i : Int) = l_spec_MapPages_rw_2 N (r : Int) b8 b9 l6 l7 n8 n9 s4 b10 l8 l9 kR kN f s1 1 p p1 ((i + 1 : Nat) : Int) := fun kRb kRb_1 kNb kR kN => by
          rw [l_spec_MapPages_rw_2b1, s_spec_MapPages_rw_2b1, dec_lt hlt, cond_true, dec_nn, Bool.and_self, cond_true, Int.toNat_natCast, elemK_some hx, h1, hc, cond_false, wrap_next hlt (by omega)]
        refine ⟨s', by omega, ?_⟩
        rcases g3 with ⟨c', q, hc', g3⟩ | g3
        · exact .inr (.inr (.inr (.inl ⟨m', m1', m2', c', q, hc', fun kRb kRb_1 kNb kR kN => by rw [hst]; exact g3 _ _⟩)))
        · exact .inr (.inr (.inr (.inr ⟨m', m1', m2', g2, fun kRb kRb_1 kNb kR kN => by rw [hst]; exact g3 _ _⟩)))


theorem l03In_yes {s : ByteArray} {y : Nat} (hs : s.size ≤ 65536) (hy : y < s.size / 256) (k : Bool → Option R) : g_spec_l03In N s (y : Int) k = k true := by
  have e : IntKind.wrap .i64 (Int.tdiv (s.size : Int) 256) = ((s.size / 256 : Nat) : Int) := by rw [tdiv_nn (by omega), w64 (by omega) (by omega)]; omega
  unfold g_spec_l03In
  rw [decide_eq_true (show (y : Int) ≥ 0 by omega), cond_true, e, decide_eq_true (show (y : Int) < ((s.size / 256 : Nat) : Int) by omega), oK_some_eq]

theorem mapsI_ww {s1 : ByteArray} {n2 n4 n5 : Int} {b3 b4 b5 : Bool} {l2 : List PageMap} {l3 l4 : List Int} {s2 : ByteArray} (hs : s1.size ≤ 65536) (h3 : l3.length ≤ 1000) (hl : ∀ x ∈ l3, ∃ y : Nat, x = (y : Int) ∧ y < s1.size / 256) (kR kN : Option R) :
    ∀ (d f i : Nat), i + d = l3.length → d < f → l_spec_MapPages_ww_0 N s1 n2 b3 b4 l2 l3 n4 n5 s2 b5 l4 kR kN f (i : Int) = kN := by
  intro d
  induction d with
  | zero =>
    intro f i hi hf
    obtain ⟨f, rfl⟩ : ∃ j, f = j + 1 := ⟨f - 1, by omega⟩
    rw [l_spec_MapPages_ww_0, s_spec_MapPages_ww_0, decide_eq_false (show ¬ (i : Int) < (l3.length : Int) by omega), cond_false]
  | succ d ih =>
    intro f i hi hf
    obtain ⟨f, rfl⟩ : ∃ j, f = j + 1 := ⟨f - 1, by omega⟩
    have hlt : i < l3.length := by omega
    obtain ⟨x, hx⟩ := nth_some hlt
    obtain ⟨y, rfl, hy⟩ := hl x (nth_mem hx)
    rw [l_spec_MapPages_ww_0, s_spec_MapPages_ww_0, dec_lt hlt, cond_true, dec_nn, Bool.and_self, cond_true, Int.toNat_natCast, elemK_some hx, l03In_yes N hs hy, Bool.not_true, cond_false, wrap_next hlt (by omega)]
    exact ih f (i + 1) (by omega) (by omega)

theorem MapPages_ww_ok {s : ByteArray} {r : Nat} {b b1 : Bool} {l : List PageMap} {l1 : List Int} (hs : s.size ≤ 65536) (h256 : s.size % 256 = 0) (hm : memOk s = true) (hr : r < s.size / 256) (hlen : l.length ≤ 1000) (h1 : l1.length ≤ 1000) (hl : ∀ x ∈ l1, ∃ y : Nat, x = (y : Int) ∧ y < s.size / 256) (hN : 2 ^ 40 < N) :
    (∃ c p : Int, c ≠ 0 ∧ ∀ (k : Int → Int → ByteArray → Bool → (List PageMap) → (List Int) → (List Int) → Option R) (k_1 : ByteArray → Nat → Nat → Nat → Bool → (List PageMap) → (List Int) → (List Int) → Option R), g_spec_MapPages_ww N s (r : Int) b b1 l l1 k k_1 = k c p ⟨[].toArray⟩ true l l1 []) ∨
    (∃ (s' : ByteArray) (b' : Bool), s'.size = s.size ∧ ∀ (k : Int → Int → ByteArray → Bool → (List PageMap) → (List Int) → (List Int) → Option R) (k_1 : ByteArray → Nat → Nat → Nat → Bool → (List PageMap) → (List Int) → (List Int) → Option R), g_spec_MapPages_ww N s (r : Int) b b1 l l1 k k_1 = k 0 0 s' b' l l1 l1) ∨
    (∃ (s' : ByteArray) (m m1 m2 : Nat) (b' : Bool), s'.size = s.size ∧ m + m1 ≤ l1.length ∧ ∀ (k : Int → Int → ByteArray → Bool → (List PageMap) → (List Int) → (List Int) → Option R) (k_1 : ByteArray → Nat → Nat → Nat → Bool → (List PageMap) → (List Int) → (List Int) → Option R), g_spec_MapPages_ww N s (r : Int) b b1 l l1 k k_1 = k_1 s' m m1 m2 b' l l1 l1) := by
  obtain ⟨s', g1, g⟩ := mapsw_ww_go (R := R) N (r := r) (b8 := b) (b9 := cond (Nat.beq l1.length 0) false false) (b10 := true) (l6 := l) (l7 := l1) (l8 := []) (l9 := l1) (n8 := 0) (n9 := 0) (s4 := ⟨[].toArray⟩) hlen l.length N 0 s (by omega) (by omega) hs h256 hr hl
  have hd : ∀ (k : Int → Int → ByteArray → Bool → (List PageMap) → (List Int) → (List Int) → Option R) (k_1 : ByteArray → Nat → Nat → Nat → Bool → (List PageMap) → (List Int) → (List Int) → Option R), g_spec_MapPages_ww N s (r : Int) b b1 l l1 k k_1 = _ := fun k k_1 => by
    unfold g_spec_MapPages_ww c_spec_MapPages_ww_0 g_spec_l01Ints_w c_spec_MapPages_ww_2b1
    rw [decide_eq_false (show ¬ (s.size : Int) > 65536 by omega), cond_false, decide_eq_false (show ¬ (l.length : Int) > 1000 by omega), cond_false, decide_eq_false (show ¬ (l1.length : Int) > 1000 by omega), oK_some_eq, cond_false, spec_MemFault_eq, hm, cond_true, bne_self_eq_false, cond_false, l03In_yes N hs hr, Bool.not_true, oK_some_eq, cond_false, room (by omega) (by omega), cond_true, List.nil_append]
  rcases g with ⟨c', q, hc', g⟩ | ⟨m, m1, c', q, hc', g⟩ | g | ⟨m, m1, m2, c', q, hc', g⟩ | ⟨m, m1, m2, hm, g⟩
  · exact .inl ⟨c', q, hc', fun k k_1 => by rw [hd]; exact (mapsI_ww N hs h1 hl _ _ l1.length N 0 (by omega) (by omega)).trans (g _ _ _ _ _)⟩
  · exact .inl ⟨c', q, hc', fun k k_1 => by rw [hd]; exact (mapsI_ww N hs h1 hl _ _ l1.length N 0 (by omega) (by omega)).trans (g _ _ _ _ _)⟩
  · exact .inr (.inl ⟨s', _, g1, fun k k_1 => by rw [hd]; exact (mapsI_ww N hs h1 hl _ _ l1.length N 0 (by omega) (by omega)).trans (g _ _ _ _ _)⟩)
  · exact .inl ⟨c', q, hc', fun k k_1 => by rw [hd]; exact (mapsI_ww N hs h1 hl _ _ l1.length N 0 (by omega) (by omega)).trans (g _ _ _ _ _)⟩
  · exact .inr (.inr ⟨s', m, m1, m2, _, g1, hm, fun k k_1 => by rw [hd]; exact (mapsI_ww N hs h1 hl _ _ l1.length N 0 (by omega) (by omega)).trans (g _ _ _ _ _)⟩)

theorem mapsI_rw {s1 : ByteArray} {n2 n4 n5 : Int} {b3 b4 b5 : Bool} {l2 : List PageMap} {l3 l4 : List Int} {s2 : ByteArray} (hs : s1.size ≤ 65536) (h3 : l3.length ≤ 1000) (hl : ∀ x ∈ l3, ∃ y : Nat, x = (y : Int) ∧ y < s1.size / 256) (kR kN : Option R) :
    ∀ (d f i : Nat), i + d = l3.length → d < f → l_spec_MapPages_rw_0 N s1 n2 b3 b4 l2 l3 n4 n5 s2 b5 l4 kR kN f (i : Int) = kN := by
  intro d
  induction d with
  | zero =>
    intro f i hi hf
    obtain ⟨f, rfl⟩ : ∃ j, f = j + 1 := ⟨f - 1, by omega⟩
    rw [l_spec_MapPages_rw_0, s_spec_MapPages_rw_0, decide_eq_false (show ¬ (i : Int) < (l3.length : Int) by omega), cond_false]
  | succ d ih =>
    intro f i hi hf
    obtain ⟨f, rfl⟩ : ∃ j, f = j + 1 := ⟨f - 1, by omega⟩
    have hlt : i < l3.length := by omega
    obtain ⟨x, hx⟩ := nth_some hlt
    obtain ⟨y, rfl, hy⟩ := hl x (nth_mem hx)
    rw [l_spec_MapPages_rw_0, s_spec_MapPages_rw_0, dec_lt hlt, cond_true, dec_nn, Bool.and_self, cond_true, Int.toNat_natCast, elemK_some hx, l03In_yes N hs hy, Bool.not_true, cond_false, wrap_next hlt (by omega)]
    exact ih f (i + 1) (by omega) (by omega)

theorem MapPages_rw_ok {s : ByteArray} {r : Nat} {b b1 : Bool} {l : List PageMap} {l1 : List Int} (hs : s.size ≤ 65536) (h256 : s.size % 256 = 0) (hm : memOk s = true) (hr : r < s.size / 256) (hlen : l.length ≤ 1000) (h1 : l1.length ≤ 1000) (hl : ∀ x ∈ l1, ∃ y : Nat, x = (y : Int) ∧ y < s.size / 256) (hN : 2 ^ 40 < N) :
    (∃ c p : Int, c ≠ 0 ∧ ∀ (k : Int → Int → ByteArray → Bool → (List PageMap) → (List Int) → (List Int) → Option R) (k_1 : ByteArray → Nat → Nat → Nat → Bool → (List PageMap) → (List Int) → (List Int) → Option R), g_spec_MapPages_rw N s (r : Int) b b1 l l1 k k_1 = k c p ⟨[].toArray⟩ true l l1 []) ∨
    (∃ (s' : ByteArray) (b' : Bool), s'.size = s.size ∧ ∀ (k : Int → Int → ByteArray → Bool → (List PageMap) → (List Int) → (List Int) → Option R) (k_1 : ByteArray → Nat → Nat → Nat → Bool → (List PageMap) → (List Int) → (List Int) → Option R), g_spec_MapPages_rw N s (r : Int) b b1 l l1 k k_1 = k 0 0 s' b' l l1 l1) ∨
    (∃ (s' : ByteArray) (m m1 m2 : Nat) (b' : Bool), s'.size = s.size ∧ m + m1 ≤ l1.length ∧ ∀ (k : Int → Int → ByteArray → Bool → (List PageMap) → (List Int) → (List Int) → Option R) (k_1 : ByteArray → Nat → Nat → Nat → Bool → (List PageMap) → (List Int) → (List Int) → Option R), g_spec_MapPages_rw N s (r : Int) b b1 l l1 k k_1 = k_1 s' m m1 m2 b' l l1 l1) := by
  obtain ⟨s', g1, g⟩ := mapsw_rw_go (R := R) N (r := r) (b8 := b) (b9 := cond (Nat.beq l1.length 0) false false) (b10 := true) (l6 := l) (l7 := l1) (l8 := []) (l9 := l1) (n8 := 0) (n9 := 0) (s4 := ⟨[].toArray⟩) hlen l.length N 0 s (by omega) (by omega) hs h256 hr hl
  have hd : ∀ (k : Int → Int → ByteArray → Bool → (List PageMap) → (List Int) → (List Int) → Option R) (k_1 : ByteArray → Nat → Nat → Nat → Bool → (List PageMap) → (List Int) → (List Int) → Option R), g_spec_MapPages_rw N s (r : Int) b b1 l l1 k k_1 = _ := fun k k_1 => by
    unfold g_spec_MapPages_rw c_spec_MapPages_rw_0 g_spec_l01Ints_w c_spec_MapPages_rw_2b1
    rw [decide_eq_false (show ¬ (s.size : Int) > 65536 by omega), cond_false, decide_eq_false (show ¬ (l.length : Int) > 1000 by omega), cond_false, decide_eq_false (show ¬ (l1.length : Int) > 1000 by omega), oK_some_eq, cond_false, spec_MemFault_eq, hm, cond_true, bne_self_eq_false, cond_false, l03In_yes N hs hr, Bool.not_true, oK_some_eq, cond_false, room (by omega) (by omega), cond_true, List.nil_append]
  rcases g with ⟨c', q, hc', g⟩ | ⟨m, m1, c', q, hc', g⟩ | g | ⟨m, m1, m2, c', q, hc', g⟩ | ⟨m, m1, m2, hm, g⟩
  · exact .inl ⟨c', q, hc', fun k k_1 => by rw [hd]; exact (mapsI_rw N hs h1 hl _ _ l1.length N 0 (by omega) (by omega)).trans (g _ _ _ _ _)⟩
  · exact .inl ⟨c', q, hc', fun k k_1 => by rw [hd]; exact (mapsI_rw N hs h1 hl _ _ l1.length N 0 (by omega) (by omega)).trans (g _ _ _ _ _)⟩
  · exact .inr (.inl ⟨s', _, g1, fun k k_1 => by rw [hd]; exact (mapsI_rw N hs h1 hl _ _ l1.length N 0 (by omega) (by omega)).trans (g _ _ _ _ _)⟩)
  · exact .inl ⟨c', q, hc', fun k k_1 => by rw [hd]; exact (mapsI_rw N hs h1 hl _ _ l1.length N 0 (by omega) (by omega)).trans (g _ _ _ _ _)⟩
  · exact .inr (.inr ⟨s', m, m1, m2, _, g1, hm, fun k k_1 => by rw [hd]; exact (mapsI_rw N hs h1 hl _ _ l1.length N 0 (by omega) (by omega)).trans (g _ _ _ _ _)⟩)


theorem frees_in {z : Nat} (hz : 6 ≤ z / 256) : ∀ x ∈ [(2 : Int), (3 : Int), (4 : Int), (5 : Int)], ∃ y : Nat, x = (y : Int) ∧ y < z / 256 := by
  intro x hx
  simp only [List.mem_cons, List.not_mem_nil, or_false] at hx
  exact ⟨x.toNat, by omega, by omega⟩

theorem tbl_go {s4 : ByteArray} {b6 b7 : Bool} {n15 n16 n17 : Int} {l10 : List Int} {l11 : List PageMap} (hs : s4.size ≤ 65536) (h256 : s4.size % 256 = 0) (hm : memOk s4 = true) (h6 : 6 ≤ s4.size / 256) (hl : l11.length ≤ 1000) (hN : 2 ^ 40 < N) :
    ∀ (d f m3 m4 m5 : Nat), m4 = d → d < f → m3 + m4 ≤ l11.length → ∃ s' : ByteArray, s'.size = s4.size ∧ ∀ kN : ByteArray → Bool → Int → Int → Int → List Int → Option R, l_spec_l01Src_tables_Wr_0 N s4 b6 b7 n15 n16 n17 l10 l11 kN f m3 m4 m5 = kN s' b7 n15 n16 n17 l10 := by
  intro d
  induction d with
  | zero =>
    intro f m3 m4 m5 hd hf hw
    obtain ⟨f, rfl⟩ : ∃ j, f = j + 1 := ⟨f - 1, by omega⟩
    refine ⟨s4, rfl, fun kN => ?_⟩
    rw [l_spec_l01Src_tables_Wr_0, s_spec_l01Src_tables_Wr_0, decide_eq_false (show ¬ (m4 : Int) > 0 by omega), cond_false]
  | succ d ih =>
    intro f m3 m4 m5 hd hf hw
    obtain ⟨f, rfl⟩ : ∃ j, f = j + 1 := ⟨f - 1, by omega⟩
    have e : IntKind.wrap .i64 ((m4 : Int) - 1) = ((m4 - 1 : Nat) : Int) := by rw [w64 (by omega) (by omega)]; omega
    have hsl : (seg l11 m3 m4).length ≤ 1000 := by simp [seg]; omega
    have hfr := frees_in h6
    rcases MapPages_rw_ok (R := R) N (s := s4) (r := 1) (b := b6) (b1 := false) (l := seg l11 m3 m4) (l1 := [(2 : Int), (3 : Int), (4 : Int), (5 : Int)]) hs h256 hm (by omega) hsl (by simp) hfr hN with ⟨c, p, hc, g⟩ | ⟨s', b', g1, g⟩ | ⟨s', m, m1, m2, b', g1, _, g⟩
    · have hc' : (c == 0) = false := by rw [beq_dec]; exact decide_eq_false hc
      obtain ⟨s', g1, g2⟩ := ih f (0 + m3) (m4 - 1) ((m4 + m5) - (m4 - 1)) (by omega) (by omega) (by omega)
      refine ⟨s', g1, fun kN => ?_⟩
      rw [l_spec_l01Src_tables_Wr_0, s_spec_l01Src_tables_Wr_0, decide_eq_true (show (m4 : Int) > 0 by omega), cond_true, ble_t hw, cond_true]
      refine (g _ _).trans ?_
      rw [hc', cond_false, e, dec_nn, decide_eq_true (show ((m4 - 1 : Nat) : Int) ≤ ((m4 + m5 : Nat) : Int) by omega), Bool.and_self, cond_true, Int.toNat_natCast, Nat.sub_zero]
      exact g2 kN
    · refine ⟨s', g1, fun kN => ?_⟩
      rw [l_spec_l01Src_tables_Wr_0, s_spec_l01Src_tables_Wr_0, decide_eq_true (show (m4 : Int) > 0 by omega), cond_true, ble_t hw, cond_true]
      refine (g _ _).trans ?_
      rw [beq_self_eq_true, cond_true]
    · refine ⟨s', g1, fun kN => ?_⟩
      rw [l_spec_l01Src_tables_Wr_0, s_spec_l01Src_tables_Wr_0, decide_eq_true (show (m4 : Int) > 0 by omega), cond_true, ble_t hw, cond_true]
      exact g _ _


theorem frames_go {b1 b2 : Bool} {n10 : Int} {l1 : List Int} (hl : l1.length ≤ 2 ^ 30) : ∀ (d f : Nat) (p m : Int) (L : List Int), d < f → d ≤ 100 → 0 < L.length → L.length ≤ 2 ^ 30 → (0 ≤ p ∧ p ≤ 2 ^ 40) →
    ∃ (p' m' : Int) (L' : List Int), L'.length = L.length ∧ (0 ≤ p' ∧ p' ≤ 2 ^ 40) ∧ ∀ kN : Int → Int → List Int → Option R, l_spec_l01Src_frames_Wr_0 N b1 b2 n10 l1 kN f (d : Int) p m L = kN p' m' L' := by
  intro d
  induction d with
  | zero =>
    intro f p m L hf hd h0 hL hp
    obtain ⟨f, rfl⟩ : ∃ j, f = j + 1 := ⟨f - 1, by omega⟩
    refine ⟨p, m, L, rfl, hp, fun kN => ?_⟩
    rw [l_spec_l01Src_frames_Wr_0, s_spec_l01Src_frames_Wr_0, decide_eq_false (show ¬ ((0 : Nat) : Int) > 0 by omega), cond_false]
  | succ d ih =>
    intro f p m L hf hd h0 hL hp
    obtain ⟨f, rfl⟩ : ∃ j, f = j + 1 := ⟨f - 1, by omega⟩
    obtain ⟨v1, p1, m1, a0, a1, a3, hp1, h1⟩ := src_n (R := R) N (n := (L.length : Int)) (b := b2) (m := m) (z := n10) (by omega) hl hp
    have a2 : v1 < (L.length : Int) := by
      rcases Nat.lt_or_ge 1 L.length with h | h
      · exact a1 (by omega)
      · have := a3 (by omega); omega
    obtain ⟨v2, p2, m2, c0, c1, _, hp2, h2⟩ := src_n (R := R) N (n := 256) (b := b2) (m := m1) (z := n10) (by omega) hl hp1
    obtain ⟨i, rfl⟩ := Int.eq_ofNat_of_zero_le a0
    obtain ⟨x, hx⟩ := nth_some (l := L) (n := i) (by omega)
    have e : IntKind.wrap .i64 (((d + 1 : Nat) : Int) - 1) = ((d : Nat) : Int) := by rw [w64 (by omega) (by omega)]; omega
    obtain ⟨p', m', L', f1, f2, f3⟩ := ih f p2 m2 (nset L i (IntKind.wrap .u8 v2)) (by omega) (by omega) (by rw [nset_length]; exact h0) (by rw [nset_length]; exact hL) hp2
    refine ⟨p', m', L', by rw [f1, nset_length], f2, fun kN => ?_⟩
    rw [l_spec_l01Src_frames_Wr_0, s_spec_l01Src_frames_Wr_0, decide_eq_true (show ((d + 1 : Nat) : Int) > 0 by omega), cond_true, h1, h2, in_rng a0 a2, cond_true, Int.toNat_natCast, elemK_some hx, blt_t (show i < L.length by omega), cond_true, e]
    exact f3 kN

theorem src_frames {n : Nat} {b : Bool} {p m z : Int} {l : List Int} (hn : 0 < n) (hn2 : n ≤ 1000) (hl : l.length ≤ 2 ^ 30) (hp : 0 ≤ p ∧ p ≤ 2 ^ 40) (hN : 2 ^ 40 < N) :
    ∃ (s : ByteArray) (p' m' : Int), s.size = n * 256 ∧ (0 ≤ p' ∧ p' ≤ 2 ^ 40) ∧ ∀ k : ByteArray → Int → Int → Option R, g_spec_l01Src_frames_Wr N (n : Int) b p m z l k = k s p' m' := by
  have e : IntKind.wrap .i64 ((n : Int) * 256) = ((n * 256 : Nat) : Int) := by rw [w64 (by omega) (by omega)]; omega
  obtain ⟨v, p1, m1, a0, a1, _, hp1, h1⟩ := src_n (R := R) N (n := 6) (b := b) (m := m) (z := z) (by omega) hl hp
  have a2 := a1 (by omega)
  obtain ⟨d, rfl⟩ := Int.eq_ofNat_of_zero_le a0
  obtain ⟨p2, m2, L, c1, hp2, h2⟩ := frames_go (R := R) N (b1 := false) (b2 := b) (n10 := z) hl d N p1 m1 (List.replicate (n * 256) 0) (by omega) (by omega) (by rw [List.length_replicate]; omega) (by rw [List.length_replicate]; omega) hp1
  refine ⟨toBytes L, p2, m2, by rw [toBytes_size, c1, List.length_replicate], hp2, fun k => ?_⟩
  unfold g_spec_l01Src_frames_Wr c_spec_l01Src_frames_Wr_0
  rw [e, dec_self, dec_nn, Int.toNat_natCast, room (by omega) (by omega), Bool.and_self, Bool.and_self, cond_true, h1]
  refine (h2 _).trans ?_
  rw [Nat.zero_add, ble_t (Nat.le_refl _), cond_true, seg_all]

theorem tbl_start {s1 : ByteArray} {b2 b3 : Bool} {n10 n11 n12 : Int} {l2 : List Int} {l3 : List PageMap} (hs : s1.size ≤ 65536) (h256 : s1.size % 256 = 0) (hm : memOk s1 = true) (h6 : 6 ≤ s1.size / 256) (hl : l3.length ≤ 1000) (hN : 2 ^ 40 < N) :
    ∃ s' : ByteArray, s'.size = s1.size ∧ ((∀ (kNb1 : ByteArray → Option R) (kN : ByteArray → Bool → Int → Int → Int → List Int → Option R), c_spec_l01Src_tables_Wr_0b1 N s1 b2 b3 n10 n11 n12 l2 l3 kNb1 kN = kNb1 s') ∨
      (∀ (kNb1 : ByteArray → Option R) (kN : ByteArray → Bool → Int → Int → Int → List Int → Option R), c_spec_l01Src_tables_Wr_0b1 N s1 b2 b3 n10 n11 n12 l2 l3 kNb1 kN = kN s' b3 n10 n11 n12 l2)) := by
  obtain ⟨M, hM⟩ : ∃ M, N = M + 1 := ⟨N - 1, by omega⟩
  have hc : ∀ (kNb1 : ByteArray → Option R) (kN : ByteArray → Bool → Int → Int → Int → List Int → Option R), c_spec_l01Src_tables_Wr_0b1 N s1 b2 b3 n10 n11 n12 l2 l3 kNb1 kN = s_spec_l01Src_tables_Wr_0b1 N s1 b2 b3 n10 n11 n12 l2 l3 (fun s4 m3 m4 m5 b6 b7 n15 n16 n17 l10 l11 => l_spec_l01Src_tables_Wr_0 N s4 b6 b7 n15 n16 n17 l10 l11 kN M m3 m4 m5) kNb1 := fun kNb1 kN => by
    unfold c_spec_l01Src_tables_Wr_0b1
    have : ∀ f, f = M + 1 → l_spec_l01Src_tables_Wr_0b1 N s1 b2 b3 n10 n11 n12 l2 l3 kNb1 kN f = s_spec_l01Src_tables_Wr_0b1 N s1 b2 b3 n10 n11 n12 l2 l3 (fun s4 m3 m4 m5 b6 b7 n15 n16 n17 l10 l11 => l_spec_l01Src_tables_Wr_0 N s4 b6 b7 n15 n16 n17 l10 l11 kN M m3 m4 m5) kNb1 := fun f hf => by
      rw [hf, l_spec_l01Src_tables_Wr_0b1]
    exact this N hM
  by_cases h0 : l3.length = 0
  · refine ⟨s1, rfl, .inl fun kNb1 kN => ?_⟩
    rw [hc, s_spec_l01Src_tables_Wr_0b1, decide_eq_false (by omega), cond_false]
  have hfr := frees_in h6
  have e : IntKind.wrap .i64 ((l3.length : Int) - 1) = ((l3.length - 1 : Nat) : Int) := by rw [w64 (by omega) (by omega)]; omega
  rcases MapPages_ww_ok (R := R) N (s := s1) (r := 1) (b := b2) (b1 := false) (l := l3) (l1 := [(2 : Int), (3 : Int), (4 : Int), (5 : Int)]) hs h256 hm (by omega) hl (by simp) hfr hN with ⟨c, p, hcc, g⟩ | ⟨s', b', g1, g⟩ | ⟨s', m, m1, m2, b', g1, _, g⟩
  · have hc' : (c == 0) = false := by rw [beq_dec]; exact decide_eq_false hcc
    obtain ⟨s', g1, g2⟩ := tbl_go (R := R) N (s4 := s1) (b6 := b2) (b7 := b3) (n15 := n10) (n16 := n11) (n17 := n12) (l10 := l2) (l11 := l3) hs h256 hm h6 hl hN (l3.length - 1) M 0 (l3.length - 1 - 0) (l3.length - (l3.length - 1)) (by omega) (by omega) (by omega)
    refine ⟨s', g1, .inr fun kNb1 kN => ?_⟩
    rw [hc, s_spec_l01Src_tables_Wr_0b1, decide_eq_true (show (l3.length : Int) > 0 by omega), cond_true]
    refine (g _ _).trans ?_
    rw [hc', cond_false, e, dec_nn, decide_eq_true (show ((l3.length - 1 : Nat) : Int) ≤ (l3.length : Int) by omega), Bool.and_self, cond_true, Int.toNat_natCast]
    exact g2 kN
  · refine ⟨s', g1, .inl fun kNb1 kN => ?_⟩
    rw [hc, s_spec_l01Src_tables_Wr_0b1, decide_eq_true (show (l3.length : Int) > 0 by omega), cond_true]
    refine (g _ _).trans ?_
    rw [beq_self_eq_true, cond_true]
  · refine ⟨s', g1, .inl fun kNb1 kN => ?_⟩
    rw [hc, s_spec_l01Src_tables_Wr_0b1, decide_eq_true (show (l3.length : Int) > 0 by omega), cond_true]
    exact g _ _

theorem tab_second {s : ByteArray} {b : Bool} {p m z : Int} {l : List Int} (hs : s.size ≤ 65536) (h6 : 1536 ≤ s.size) (hl : l.length ≤ 2 ^ 30) (hp : 0 ≤ p ∧ p ≤ 2 ^ 40) :
    ∃ (s' : ByteArray) (p' m' : Int), s'.size = s.size ∧ (0 ≤ p' ∧ p' ≤ 2 ^ 40) ∧ ∀ k : ByteArray → Bool → Int → Int → Int → List Int → Option R,
      (g_spec_l01Src_one_Wr N (6 : Int) b p m z l fun b12 n36 n37 => (cond b12
        (g_spec_l01Src_n_Wr N (3 : Int) b n36 n37 z l fun n38 n39 n40 => (g_spec_l01Src_n_Wr N (4 : Int) b n39 n40 z l fun n41 n42 n43 =>
          (cond ((decide ((0 : Int) ≤ n41)) && (decide (n41 < (4 : Int)))) (elemK [(1 : Int), (76819 : Int), (2 : Int), (0 : Int)] (Int.toNat n41) fun x3 =>
            (g_spec_SetWord N s (IntKind.wrap .i64 ((512 : Int) + (IntKind.wrap .i64 ((4 : Int) * n38)))) x3 fun s10 => (k s10 b n42 n43 z l))) none)))
        (k s b n36 n37 z l))) = k s' b p' m' z l := by
  obtain ⟨v, p1, m1, hp1, h1⟩ := src_one (R := R) N (n := 6) (b := b) (m := m) (z := z) (by omega) hl hp
  cases v with
  | false => exact ⟨s, p1, m1, rfl, hp1, fun k => by rw [h1, cond_false]⟩
  | true =>
    obtain ⟨v2, p2, m2, a0, a1, _, hp2, h2⟩ := src_n (R := R) N (n := 3) (b := b) (m := m1) (z := z) (by omega) hl hp1
    have a1 := a1 (by omega)
    obtain ⟨v3, p3, m3, c0, c1, _, hp3, h3⟩ := src_n (R := R) N (n := 4) (b := b) (m := m2) (z := z) (by omega) hl hp2
    have c1 := c1 (by omega)
    obtain ⟨x, _, hx⟩ := pick_lit (R := R) (L := [(1 : Int), (76819 : Int), (2 : Int), (0 : Int)]) c0 (by simpa using c1)
    obtain ⟨v2, rfl⟩ := Int.eq_ofNat_of_zero_le a0
    have e : IntKind.wrap .i64 ((512 : Int) + (IntKind.wrap .i64 ((4 : Int) * (v2 : Int)))) = ((512 + 4 * v2 : Nat) : Int) := by rw [w64 (n := 4 * (v2 : Int)) (by omega) (by omega), w64 (by omega) (by omega)]; omega
    refine ⟨setWord s (512 + 4 * v2) x, p3, m3, setWord_size (by omega) _, hp3, fun k => ?_⟩
    rw [h1, cond_true, h2, h3, in_rng c0 c1, cond_true, hx, e, spec_SetWord_eq N (by omega) hs]

theorem tab_first {s : ByteArray} {b : Bool} {p m z : Int} {l : List Int} (hs : s.size ≤ 65536) (h6 : 1536 ≤ s.size) (hl : l.length ≤ 2 ^ 30) (hp : 0 ≤ p ∧ p ≤ 2 ^ 40) :
    ∃ (s' : ByteArray) (p' m' : Int), s'.size = s.size ∧ (0 ≤ p' ∧ p' ≤ 2 ^ 40) ∧ ∀ k : ByteArray → Bool → Int → Int → Int → List Int → Option R,
      (g_spec_l01Src_one_Wr N (6 : Int) b p m z l fun b10 n20 n21 =>
            (cond b10
            (g_spec_l01Src_n_Wr N (3 : Int) b n20 n21 z l fun n22 n23 n24 =>
              (g_spec_l01Src_n_Wr N (4 : Int) b n23 n24 z l fun n25 n26 n27 =>
              (cond ((decide ((0 : Int) ≤ n25)) && (decide (n25 < (4 : Int))))
              (elemK [(8451 : Int), (65281 : Int), (16387 : Int), (2147483649 : Int)] (Int.toNat n25) fun x1 =>
                (g_spec_SetWord N s (IntKind.wrap .i64 ((256 : Int) + (IntKind.wrap .i64 ((4 : Int) * n22)))) x1 fun s8 =>
                (g_spec_l01Src_one_Wr N (6 : Int) b n26 n27 z l fun b11 n28 n29 =>
                (cond b11
                (g_spec_l01Src_n_Wr N (3 : Int) b n28 n29 z l fun n30 n31 n32 =>
                  (g_spec_l01Src_n_Wr N (4 : Int) b n31 n32 z l fun n33 n34 n35 =>
                  (cond ((decide ((0 : Int) ≤ n33)) && (decide (n33 < (4 : Int))))
                  (elemK [(1 : Int), (76819 : Int), (2 : Int), (0 : Int)] (Int.toNat n33) fun x2 =>
                    (g_spec_SetWord N s8 (IntKind.wrap .i64 ((512 : Int) + (IntKind.wrap .i64 ((4 : Int) * n30)))) x2 fun s9 =>
                    (k s9 b n34 n35 z l)))
                  none)))
                (k s8 b n28 n29 z l)))))
              none)))
            (g_spec_l01Src_one_Wr N (6 : Int) b n20 n21 z l fun b12 n36 n37 =>
              (cond b12
              (g_spec_l01Src_n_Wr N (3 : Int) b n36 n37 z l fun n38 n39 n40 =>
                (g_spec_l01Src_n_Wr N (4 : Int) b n39 n40 z l fun n41 n42 n43 =>
                (cond ((decide ((0 : Int) ≤ n41)) && (decide (n41 < (4 : Int))))
                (elemK [(1 : Int), (76819 : Int), (2 : Int), (0 : Int)] (Int.toNat n41) fun x3 =>
                  (g_spec_SetWord N s (IntKind.wrap .i64 ((512 : Int) + (IntKind.wrap .i64 ((4 : Int) * n38)))) x3 fun s10 =>
                  (k s10 b n42 n43 z l)))
                none)))
              (k s b n36 n37 z l))))) = k s' b p' m' z l := by
  obtain ⟨v, p1, m1, hp1, h1⟩ := src_one (R := R) N (n := 6) (b := b) (m := m) (z := z) (by omega) hl hp
  cases v with
  | false =>
    obtain ⟨s', p', m', g1, g2, g3⟩ := tab_second (R := R) N (b := b) (m := m1) (z := z) hs h6 hl hp1
    exact ⟨s', p', m', g1, g2, fun k => by rw [h1, cond_false]; exact g3 k⟩
  | true =>
    obtain ⟨v2, p2, m2, a0, a1, _, hp2, h2⟩ := src_n (R := R) N (n := 3) (b := b) (m := m1) (z := z) (by omega) hl hp1
    have a1 := a1 (by omega)
    obtain ⟨v3, p3, m3, c0, c1, _, hp3, h3⟩ := src_n (R := R) N (n := 4) (b := b) (m := m2) (z := z) (by omega) hl hp2
    have c1 := c1 (by omega)
    obtain ⟨x, _, hx⟩ := pick_lit (R := R) (L := [(8451 : Int), (65281 : Int), (16387 : Int), (2147483649 : Int)]) c0 (by simpa using c1)
    obtain ⟨v2, rfl⟩ := Int.eq_ofNat_of_zero_le a0
    have e : IntKind.wrap .i64 ((256 : Int) + (IntKind.wrap .i64 ((4 : Int) * (v2 : Int)))) = ((256 + 4 * v2 : Nat) : Int) := by rw [w64 (n := 4 * (v2 : Int)) (by omega) (by omega), w64 (by omega) (by omega)]; omega
    have hz : (setWord s (256 + 4 * v2) x).size = s.size := setWord_size (by omega) _
    obtain ⟨s', p', m', g1, g2, g3⟩ := tab_second (R := R) N (s := setWord s (256 + 4 * v2) x) (b := b) (m := m3) (z := z) (by omega) (by omega) hl hp3
    refine ⟨s', p', m', by omega, g2, fun k => ?_⟩
    rw [h1, cond_true, h2, h3, in_rng c0 c1, cond_true, hx, e, spec_SetWord_eq N (by omega) hs]
    exact g3 k

theorem memOk_of {s : ByteArray} {n : Nat} (h : s.size = n * 256) (h0 : 0 < n) (h1 : n ≤ 256) : memOk s = true := by
  unfold memOk
  rw [h, decide_eq_true (by omega), decide_eq_true (by omega), tmod_nn (by omega)]
  simp

theorem src_tables {b : Bool} {p m z : Int} {l : List Int} (hl : l.length ≤ 2 ^ 30) (hp : 0 ≤ p ∧ p ≤ 2 ^ 40) (hN : 2 ^ 40 < N) :
    ∃ (n : Nat) (s : ByteArray) (p' m' : Int), (n = 8 ∨ n = 12 ∨ n = 40) ∧ s.size = n * 256 ∧ (0 ≤ p' ∧ p' ≤ 2 ^ 40) ∧ ∀ k : ByteArray → Bool → Int → Int → Int → List Int → Option R, g_spec_l01Src_tables_Wr N b p m z l k = k s b p' m' z l := by
  obtain ⟨v1, p1, m1, a0, a1, _, hp1, h1⟩ := src_n (R := R) N (n := 3) (b := b) (m := m) (z := z) (by omega) hl hp
  have a1 := a1 (by omega)
  obtain ⟨x, hxm, hx⟩ := pick_lit (R := R) (L := [(8 : Int), (12 : Int), (40 : Int)]) a0 (by simpa using a1)
  obtain ⟨n, rfl, hn⟩ : ∃ n : Nat, x = (n : Int) ∧ (n = 8 ∨ n = 12 ∨ n = 40) := by
    simp only [List.mem_cons, List.not_mem_nil, or_false] at hxm
    exact ⟨x.toNat, by omega, by omega⟩
  obtain ⟨s, p2, m2, hs, hp2, h2⟩ := src_frames (R := R) N (n := n) (b := b) (m := m1) (z := z) (by omega) (by omega) hl hp1 hN
  obtain ⟨b1, p3, m3, L, _, hL, hp3, h3⟩ := src_maps (R := R) N (n := (n : Int)) (b := b) (m := m2) (z := z) (by omega) hl hp2 hN
  have hz : (toBytes (seg (List.replicate 256 (0 : Int)) 0 256)).size = 256 := by rw [toBytes_size]; unfold seg; rw [List.length_take, List.length_drop, List.length_replicate]; rfl
  have hsz : (s.extract 0 256 ++ toBytes (seg (List.replicate 256 (0 : Int)) 0 256) ++ s.extract 512 s.size).size = n * 256 := by
    rw [ByteArray.size_append, ByteArray.size_append, hz, ByteArray.size_extract, ByteArray.size_extract]; omega
  have hrun : ∀ k : ByteArray → Bool → Int → Int → Int → List Int → Option R, g_spec_l01Src_tables_Wr N b p m z l k = _ := fun k => by
    unfold g_spec_l01Src_tables_Wr
    rw [h1, in_rng a0 a1, cond_true, hx, h2, decide_eq_true (show (256 : Int) ≤ (s.size : Int) by omega), cond_true, show (256 : Int).toNat = 256 from rfl, ble_t (by rw [ByteArray.size_extract]; omega), cond_true, decide_eq_true (show (512 : Int) ≤ (s.size : Int) by omega), decide_eq_true (show (s.size : Int) ≤ (s.size : Int) by omega), Bool.and_self, cond_true, Int.toNat_natCast,
      ble_t (by rw [ByteArray.size_append, hz, ByteArray.size_extract, ByteArray.size_extract]; omega), cond_true, h3]
  clear h1 h2 h3 hx
  generalize s.extract 0 256 ++ toBytes (seg (List.replicate 256 (0 : Int)) 0 256) ++ s.extract 512 s.size = t at hsz hrun
  obtain ⟨s1, g1, g⟩ := tbl_start (R := R) N (s1 := t) (b2 := b1) (b3 := b) (n10 := p3) (n11 := m3) (n12 := z) (l2 := l) (l3 := L) (by omega) (by omega) (memOk_of hsz (by omega) (by omega)) (by omega) (by omega) hN
  obtain ⟨s', p', m', q1, q2, q3⟩ := tab_first (R := R) N (s := s1) (b := b) (m := m3) (z := z) (by omega) (by omega) hl hp3
  refine ⟨n, s', p', m', hn, by omega, q2, fun k => ?_⟩
  rw [hrun]
  rcases g with g | g
  · exact (g _ _).trans (q3 k)
  · exact (g _ _).trans (q3 k)

theorem src_va {b : Bool} {p m z : Int} {l : List Int} (hl : l.length ≤ 2 ^ 30) (hp : 0 ≤ p ∧ p ≤ 2 ^ 40) :
    ∃ (v p' m' : Int), (0 ≤ p' ∧ p' ≤ 2 ^ 40) ∧ ∀ k : Int → Int → Int → Option R, g_spec_l01Src_va_Wr N b p m z l k = k v p' m' := by
  obtain ⟨v1, p1, m1, a0, a1, _, hp1, h1⟩ := src_n (R := R) N (n := 10) (b := b) (m := m) (z := z) (by omega) hl hp
  have a1 := a1 (by omega)
  obtain ⟨x, _, hx⟩ := pick_lit (R := R) (L := [(0 : Int), (1 : Int), (2 : Int), (31 : Int), (32 : Int), (33 : Int), (64 : Int), (1023 : Int), (5 : Int), (96 : Int)]) a0 (by simpa using a1)
  obtain ⟨v2, p2, m2, _, _, _, hp2, h2⟩ := src_n (R := R) N (n := 64) (b := b) (m := m1) (z := z) (by omega) hl hp1
  obtain ⟨v3, p3, m3, hp3, h3⟩ := src_one (R := R) N (n := 30) (b := b) (m := m2) (z := z) (by omega) hl hp2
  cases v3 with
  | false => exact ⟨_, p3, m3, hp3, fun k => by unfold g_spec_l01Src_va_Wr; rw [h1, in_rng a0 a1, cond_true, hx, h2, h3, cond_false]⟩
  | true =>
    obtain ⟨v4, p4, m4, c0, c1, _, hp4, h4⟩ := src_n (R := R) N (n := 3) (b := b) (m := m3) (z := z) (by omega) hl hp3
    have c1 := c1 (by omega)
    obtain ⟨y, _, hy⟩ := pick_lit (R := R) (L := [(-(1 : Int)), (262144 : Int), (262140 : Int)]) c0 (by simpa using c1)
    exact ⟨y, p4, m4, hp4, fun k => by unfold g_spec_l01Src_va_Wr; rw [h1, in_rng a0 a1, cond_true, hx, h2, h3, cond_true, h4, in_rng c0 c1, cond_true, hy]⟩


theorem lwHas_eq {l : List Int} {b : Bool} {n : Int} (hl : l.length ≤ 2 ^ 40) (hN : 2 ^ 40 < N) (k : Bool → Option R) : g_laws_lwHas_r N b n l k = k (l.any fun x => x == n) := by
  unfold g_laws_lwHas_r c_laws_lwHas_r_0
  rw [srch (l_laws_lwHas_r_0 N b n l (k true) (k false)) l.length (fun i => atD l i (fun x => x == n) true) (k true) (k false) (fun f i hi => ?_) (fun f => ?_) (by omega), any_atD]
  · cases l.any (fun x => x == n) <;> rfl
  · obtain ⟨x, hx⟩ := nth_some hi
    have hw : IntKind.wrap .i64 ((i : Int) + 1) = ((i + 1 : Nat) : Int) := by rw [w64 (by omega) (by omega)]; omega
    rw [l_laws_lwHas_r_0, s_laws_lwHas_r_0, decide_eq_true (show (i : Int) < (l.length : Int) by omega), cond_true, dec_nn, Bool.and_self, cond_true, Int.toNat_natCast, elemK_some hx, hw, atD_some hx]
  · rw [l_laws_lwHas_r_0, s_laws_lwHas_r_0, decide_eq_false (by omega), cond_false]

theorem lwFrame_eq {s : ByteArray} {f : Nat} (h : f * 256 + 256 ≤ s.size) (hs : s.size ≤ 2 ^ 40) (k : ByteArray → Option R) : g_laws_lwFrame N s f k = k (frame s f) := by
  unfold g_laws_lwFrame frame
  have e1 : IntKind.wrap .i64 ((f : Int) * 256) = ((f * 256 : Nat) : Int) := by rw [w64 (by omega) (by omega)]; omega
  have e2 : IntKind.wrap .i64 (IntKind.wrap .i64 ((f : Int) + 1) * 256) = ((f * 256 + 256 : Nat) : Int) := by rw [w64 (n := (f : Int) + 1) (by omega) (by omega), w64 (by omega) (by omega)]; omega
  rw [decide_eq_false (show ¬ (f : Int) < 0 by omega), cond_false, e1, e2, decide_eq_false (show ¬ ((f * 256 + 256 : Nat) : Int) > (s.size : Int) by omega), oK_some_eq, cond_false, dec_nn, decide_eq_true (show ((f * 256 : Nat) : Int) ≤ ((f * 256 + 256 : Nat) : Int) by omega), decide_eq_true (show ((f * 256 + 256 : Nat) : Int) ≤ (s.size : Int) by omega), Bool.and_self, Bool.and_self, cond_true, Int.toNat_natCast, Int.toNat_natCast]

def pgOf (s : ByteArray) (ro : Nat) (p : Nat × Nat) : Int := (lk s ro p.1 2).pa / 256

def seenS (s : ByteArray) (ro : Nat) (st : Bool × List Int × List Int) (p : Nat × Nat) : Bool × List Int × List Int :=
  (st.1 && !(st.2.2.any fun x => x == pgOf s ro p), st.2.1 ++ framesOf (lk s ro p.1 2), st.2.2 ++ [pgOf s ro p])

theorem seen_facts (s : ByteArray) (ro : Nat) : ∀ (P : List (Nat × Nat)) (st : Bool × List Int × List Int), (P.foldl (seenS s ro) st).2.1 = st.2.1 ++ P.flatMap (fun p => framesOf (lk s ro p.1 2)) ∧ (P.foldl (seenS s ro) st).2.2 = st.2.2 ++ P.map (pgOf s ro) ∧
    ((st.1 = true → st.2.2.Pairwise (· ≠ ·)) → (P.foldl (seenS s ro) st).1 = true → (P.foldl (seenS s ro) st).2.2.Pairwise (· ≠ ·))
  | [], st => ⟨by simp, by simp, fun h => h⟩
  | p :: P, st => by
    obtain ⟨h1, h2, h3⟩ := seen_facts s ro P (seenS s ro st p)
    rw [List.foldl_cons]
    refine ⟨by rw [h1]; unfold seenS; simp, by rw [h2]; unfold seenS; simp, fun h => h3 fun hs => ?_⟩
    unfold seenS at hs ⊢
    dsimp only at hs ⊢
    rw [Bool.and_eq_true, Bool.not_eq_true'] at hs
    rw [List.pairwise_append]
    refine ⟨h hs.1, by simp, fun x hx y hy => ?_⟩
    rw [List.mem_singleton] at hy
    subst hy
    have := List.any_eq_false.1 hs.2 x hx
    simpa using this

theorem skip_go {s t s6 s7 : ByteArray} {ro va : Nat} {b1 : Bool} {n9 n10 : Int} {l1 l2 : List Int} (hva : va + t.size ≤ 262144) (kN : Bool → Bool → Bool → List Int → List Int → Option R) : ∀ (e f i : Nat) (b2 b3 b4 : Bool) (l3 l4 : List Int), 0 < i → i + e ≤ t.size → (va + i) % 256 ≠ 0 ∨ e = 0 → (va + i) % 256 + e ≤ 256 →
    l_laws_FnDma_r_0 N s ro va t b1 l1 n9 n10 s6 s7 l2 kN (f + e) b2 b3 b4 (i : Int) l3 l4 = l_laws_FnDma_r_0 N s ro va t b1 l1 n9 n10 s6 s7 l2 kN f b2 b3 b4 ((i + e : Nat) : Int) l3 l4
  | 0, f, i, b2, b3, b4, l3, l4, _, _, _, _ => rfl
  | e + 1, f, i, b2, b3, b4, l3, l4, h0, hi, hm, hm2 => by
    have hw : IntKind.wrap .i64 ((i : Int) + 1) = ((i + 1 : Nat) : Int) := by rw [w64 (by omega) (by omega)]; omega
    have ha : IntKind.wrap .i64 ((va : Int) + (i : Int)) = ((va + i : Nat) : Int) := by rw [w64 (by omega) (by omega)]; omega
    have hne : (Int.tmod (((va + i : Nat) : Int)) 256 != 0) = true := by
      rw [tmod_nn (by omega)]
      have : ((va + i : Nat) : Int) % 256 ≠ 0 := by omega
      simpa using this
    rw [show f + (e + 1) = (f + e) + 1 by omega, l_laws_FnDma_r_0, s_laws_FnDma_r_0, decide_eq_true (show (i : Int) < (t.size : Int) by omega), cond_true, decide_eq_true (show (i : Int) > 0 by omega), cond_true, ha, hne, oK_some_eq, cond_true, hw]
    rw [skip_go hva kN e f (i + 1) b2 b3 b4 l3 l4 (by omega) (by omega) (by omega) (by omega), show i + 1 + e = i + (e + 1) by omega]

theorem seen_go {s t s6 s7 : ByteArray} {ro va : Nat} {b1 : Bool} {n9 n10 : Int} {l1 l2 : List Int} (hg : Good s) (hro : ro ≤ 255) (hva : va + t.size ≤ 262144) (ht : t.size ≤ 1000) (hN : 2 ^ 40 < N) : ∀ (d n i f : Nat) (b2 b3 : Bool) (st : Bool × List Int × List Int), n ≤ d → n < f → i + n = t.size → (i = 0 ∨ (va + i) % 256 = 0 ∨ n = 0) →
    (∀ p ∈ posL n (va + i) n, (lk s ro p.1 2).fault = 0) → st.2.1.length ≤ 2 * i → st.2.2.length ≤ i →
    ∃ f1 f2 : Bool, ∀ kN : Bool → Bool → Bool → List Int → List Int → Option R, l_laws_FnDma_r_0 N s ro va t b1 l1 n9 n10 s6 s7 l2 kN f b2 b3 st.1 (i : Int) st.2.1 st.2.2 = kN f1 f2 ((posL n (va + i) n).foldl (seenS s ro) st).1 ((posL n (va + i) n).foldl (seenS s ro) st).2.1 ((posL n (va + i) n).foldl (seenS s ro) st).2.2
  | 0, n, i, f, b2, b3, st, hn, hf, hi, _, _, _, _ => by
    obtain ⟨f, rfl⟩ : ∃ j, f = j + 1 := ⟨f - 1, by omega⟩
    have : n = 0 := by omega
    subst this
    refine ⟨b2, b3, fun kN => ?_⟩
    rw [l_laws_FnDma_r_0, s_laws_FnDma_r_0, decide_eq_false (by omega), cond_false]
    rfl
  | d + 1, n, i, f, b2, b3, st, hn, hf, hi, hpos, hok, hl3, hl4 => by
    obtain ⟨f, rfl⟩ : ∃ j, f = j + 1 := ⟨f - 1, by omega⟩
    by_cases h0 : 0 < n
    case neg =>
      have : n = 0 := by omega
      subst this
      refine ⟨b2, b3, fun kN => ?_⟩
      rw [l_laws_FnDma_r_0, s_laws_FnDma_r_0, decide_eq_false (by omega), cond_false]
      rfl
    obtain ⟨d1, d2, d3⟩ := dm_facts (a := va + i) h0
    rw [posL_step h0] at hok ⊢
    have hok1 := hok _ (List.mem_cons_self ..)
    dsimp only at hok1
    obtain ⟨ff, tt, ii, _, _, _, hff, _, _, hpa, _⟩ := look_tables (s := s) (root := ro) (va := va + i) (acc := 2) (u := true) (by omega) hok1
    have hpg : pgOf s ro (va + i, dm (va + i) n) = (ff : Int) := by
      unfold pgOf lk
      dsimp only
      rw [hpa]; omega
    have hw : IntKind.wrap .i64 ((i : Int) + 1) = ((i + 1 : Nat) : Int) := by rw [w64 (by omega) (by omega)]; omega
    have ha : IntKind.wrap .i64 ((va : Int) + (i : Int)) = ((va + i : Nat) : Int) := by rw [w64 (by omega) (by omega)]; omega
    have hsk : (cond (decide ((i : Int) > 0)) (some (Int.tmod (((va + i : Nat) : Int)) 256 != 0)) (some false)) = some false := by
      rcases hpos with h | h | h
      · rw [decide_eq_false (by omega), cond_false]
      · have : (Int.tmod (((va + i : Nat) : Int)) 256 != 0) = false := by
          rw [tmod_nn (by omega)]
          have : ((va + i : Nat) : Int) % 256 = 0 := by omega
          simpa using this
        rw [this]
        cases decide ((i : Int) > 0) <;> rfl
      · omega
    have hdv : IntKind.wrap .i64 (Int.tdiv (look s ro (va + i) 2 true).pa 256) = (ff : Int) := by
      rw [hpa, Int.tdiv_eq_ediv_of_nonneg (by omega), w64 (by omega) (by have := hg.le; omega)]; omega
    have hfl : (framesOf (look s ro (va + i) 2 true)).length ≤ 2 := by
      unfold framesOf
      cases ((look s ro (va + i) 2 true).many == 0) <;> cases ((look s ro (va + i) 2 true).many == 1) <;> simp
    have hnew : seenS s ro st (va + i, dm (va + i) n) = (st.1 && !(st.2.2.any fun x => x == (ff : Int)), st.2.1 ++ framesOf (look s ro (va + i) 2 true), st.2.2 ++ [(ff : Int)]) := by
      unfold seenS
      rw [hpg]; rfl
    rw [List.foldl_cons, hnew]
    obtain ⟨f1, f2, hk⟩ := seen_go (s6 := s6) (s7 := s7) (b1 := b1) (n9 := n9) (n10 := n10) (l1 := l1) (l2 := l2) hg hro hva ht hN d (n - dm (va + i) n) (i + dm (va + i) n) (f - (dm (va + i) n - 1)) (cond (Nat.beq (framesOf (look s ro (va + i) 2 true)).length 0) b2 false) (cond (Nat.beq (List.length [(ff : Int)]) 0) b3 false) (st.1 && !(st.2.2.any fun x => x == (ff : Int)), st.2.1 ++ framesOf (look s ro (va + i) 2 true), st.2.2 ++ [(ff : Int)]) (by omega) (by omega) (by omega)
      (by by_cases hd : dm (va + i) n = n
          · exact .inr (.inr (by omega))
          · refine .inr (.inl ?_)
            unfold dm at hd ⊢
            split at hd
            · rename_i hlt
              rw [if_pos hlt]; omega
            · exact absurd rfl hd)
      (fun p hp => hok p (List.mem_cons_of_mem _ (by rw [Nat.add_assoc]; exact hp)))
      (by rw [List.length_append]; omega) (by rw [List.length_append, List.length_singleton]; omega)
    refine ⟨f1, f2, fun kN => ?_⟩
    rw [show va + i + dm (va + i) n = va + (i + dm (va + i) n) by omega, ← hk kN]
    rw [l_laws_FnDma_r_0, s_laws_FnDma_r_0, decide_eq_true (show (i : Int) < (t.size : Int) by omega), cond_true, ha, hsk, oK_some_eq, cond_false, spec_Walk_eq N hg.ok hg.le hg.fr hro (by omega) (.inr (.inl rfl)), hdv, lwHas_eq N (by omega) hN, cond_somes, oK_some_eq, room (by omega) (by omega), cond_true, room (by rw [List.length_singleton]; omega) (by rw [List.length_singleton]; omega), cond_true, hw]
    have hb : cond st.1 (!(st.2.2.any fun x => x == (ff : Int))) false = (st.1 && !(st.2.2.any fun x => x == (ff : Int))) := by cases st.1 <;> rfl
    rw [hb]
    have hs := skip_go N (s := s) (t := t) (s6 := s6) (s7 := s7) (ro := ro) (va := va) (b1 := b1) (n9 := n9) (n10 := n10) (l1 := l1) (l2 := l2) hva kN (dm (va + i) n - 1) (f - (dm (va + i) n - 1)) (i + 1) (cond (Nat.beq (framesOf (look s ro (va + i) 2 true)).length 0) b2 false) (cond (Nat.beq (List.length [(ff : Int)]) 0) b3 false) (st.1 && !(st.2.2.any fun x => x == (ff : Int))) (st.2.1 ++ framesOf (look s ro (va + i) 2 true)) (st.2.2 ++ [(ff : Int)]) (by omega) (by omega) (by omega) (by omega)
    rw [show f - (dm (va + i) n - 1) + (dm (va + i) n - 1) = f by omega, show i + 1 + (dm (va + i) n - 1) = i + dm (va + i) n by omega] at hs
    exact hs


theorem src_dma {b : Bool} {p m z : Int} {l : List Int} (hl : l.length ≤ 2 ^ 30) (hp : 0 ≤ p ∧ p ≤ 2 ^ 40) (hN : 2 ^ 40 < N) :
    ∃ (s : ByteArray) (x j p' m' : Int), (0 ≤ p' ∧ p' ≤ 2 ^ 40) ∧ ∀ k : ByteArray → Int → Int → Bool → Int → Int → Int → Option R, g_spec_l01Src_dma_Wr N b p m z l k = k s x j b p' m' z := by
  obtain ⟨n, s, p1, m1, _, _, hp1, h1⟩ := src_tables (R := R) N (b := b) (m := m) (z := z) hl hp hN
  obtain ⟨v2, p2, m2, hp2, h2⟩ := src_va (R := R) N (b := b) (m := m1) (z := z) hl hp1
  obtain ⟨v3, p3, m3, _, _, _, hp3, h3⟩ := src_n (R := R) N (n := 5) (b := b) (m := m2) (z := z) (by omega) hl hp2
  obtain ⟨v4, p4, m4, hp4, h4⟩ := src_one (R := R) N (n := 3) (b := b) (m := m3) (z := z) (by omega) hl hp3
  obtain ⟨v5, p5, m5, c0, c1, _, hp5, h5⟩ := src_n (R := R) N (n := 7) (b := b) (m := m4) (z := z) (by omega) hl hp4
  have c1 := c1 (by omega)
  obtain ⟨y, _, hy⟩ := pick_lit (R := R) (L := [(1 : Int), (1 : Int), (1 : Int), (1 : Int), (0 : Int), (-(1 : Int)), (256 : Int)]) c0 (by simpa using c1)
  cases v4 with
  | true => exact ⟨s, y, _, p5, m5, hp5, fun k => by unfold g_spec_l01Src_dma_Wr; rw [h1, h2, h3, h4, cond_true, oK_some_eq, h5, in_rng c0 c1, cond_true, hy]⟩
  | false => exact ⟨s, y, _, p5, m5, hp5, fun k => by unfold g_spec_l01Src_dma_Wr; rw [h1, h2, h3, h4, cond_false, oK_some_eq, h5, in_rng c0 c1, cond_true, hy]⟩

theorem DrawDmaWrite_ok {b : Bool} {l : List Int} (hl : l.length ≤ 2 ^ 30) (hN : 2 ^ 40 < N) : ∃ (s : ByteArray) (x j : Int) (t : ByteArray), t.size ≤ 20 ∧ ∀ k : ByteArray → Int → Int → ByteArray → Option R, g_spec_DrawDmaWrite_r N b l k = k s x j t := by
  obtain ⟨m0, z, _, _, h0⟩ := src_of (R := R) N (b := b) hl hN
  obtain ⟨s, x, j, p1, m1, hp1, h1⟩ := src_dma (R := R) N (b := b) (m := m0) (z := z) (p := 0) hl (by omega) hN
  obtain ⟨v, p2, m2, a0, a1, _, hp2, h2⟩ := src_n (R := R) N (n := 20) (b := b) (m := m1) (z := z) (by omega) hl hp1
  have a1 := a1 (by omega)
  obtain ⟨c, rfl⟩ := Int.eq_ofNat_of_zero_le a0
  obtain ⟨t, p3, m3, ht, hp3, h3⟩ := src_bytes (R := R) N (n := c) (b := b) (m := m2) (z := z) (by omega) hl hp2 hN
  exact ⟨s, x, j, t, by omega, fun k => by unfold g_spec_DrawDmaWrite_r; rw [h0, h1, h2, h3]⟩

theorem law_FnDma {b : Bool} {l : List Int} (hN : 2 ^ 40 < N) (k : Bool → Option R) : g_laws_FnDma_r N b l k = k true := by
  unfold g_laws_FnDma_r
  by_cases hl : (l.length : Int) > 1048576
  · rw [decide_eq_true hl]; rfl
  rw [decide_eq_false hl, cond_false]
  obtain ⟨s, root, at_, t, ht, hk⟩ := DrawDmaWrite_ok (R := R) N (b := b) (l := l) (by omega) hN
  rw [hk]
  clear hk
  rcases DmaWrite_form (R := R) N (s := s) (t := t) (root := root) (a := at_) hN with ⟨c, p, hc, hI, hS⟩ | ⟨ro, va, s', L, rfl, rfl, hro, han, hg, _, hw, hI, hS⟩
  · have hc1 : (c != 0) = true := by simpa using hc
    rw [hS, hI, bne_self_eq_false, cond_false, bne_self_eq_false, cond_false, decide_eq_true (rfl : (⟨[].toArray⟩ : ByteArray) = ⟨[].toArray⟩), hc1, beq_self_eq_true, beq_self_eq_true]
    rfl
  rw [hS, hI, bne_self_eq_false, decide_eq_true (rfl : dmaMem t s' L = dmaMem t s' L)]
  show c_laws_FnDma_r_0 N s ro va t false l 0 0 ⟨[].toArray⟩ (dmaMem t s' L) [] false false true 0 [] [] _ = k true
  obtain ⟨w1, w2, w3, w4⟩ := seq_facts hg.fr hw (flagEq.refl s) han
  obtain ⟨g1, g2, g3, g4⟩ := seq_pages hg.fr han hw
  obtain ⟨k1, k2⟩ := dmaMem_facts L t s' (fun q hq => by rw [g1]; exact (g2 q hq).1) g3
  obtain ⟨f1, f2, hseen⟩ := seen_go (R := R) N (s := s) (t := t) (s6 := ⟨[].toArray⟩) (s7 := dmaMem t s' L) (ro := ro) (va := va) (b1 := false) (n9 := 0) (n10 := 0) (l1 := l) (l2 := []) hg hro han (by omega) hN t.size t.size 0 N false false (true, [], []) (Nat.le_refl _) (by omega) (by omega) (.inl rfl) w2 (Nat.le_refl _) (Nat.le_refl _)
  rw [Nat.add_zero] at hseen
  obtain ⟨q1, q2, q3⟩ := seen_facts s ro (posL t.size va t.size) (true, [], [])
  have q3 := q3 (fun _ => List.Pairwise.nil)
  obtain ⟨_, hpl⟩ := posL_sum t.size va t.size (Nat.le_refl _)
  have hfl : ∀ p : Nat × Nat, (framesOf (lk s ro p.1 2)).length ≤ 2 := fun p => by
    unfold framesOf
    cases ((lk s ro p.1 2).many == 0) <;> cases ((lk s ro p.1 2).many == 1) <;> simp
  have hlen : ∀ P : List (Nat × Nat), (P.flatMap (fun p => framesOf (lk s ro p.1 2))).length ≤ 2 * P.length := by
    intro P
    induction P with
    | nil => simp
    | cons p P ih => rw [List.flatMap_cons, List.length_append, List.length_cons]; have := hfl p; omega
  have hlt := hlen (posL t.size va t.size)
  unfold c_laws_FnDma_r_0
  refine (hseen _).trans ?_
  generalize hcl : ((posL t.size va t.size).foldl (seenS s ro) (true, [], [])).1 = cl at q3
  rw [q1, q2] at *
  rw [List.nil_append] at *
  rw [List.nil_append] at *
  obtain ⟨tb, htb⟩ : ∃ tb, (posL t.size va t.size).flatMap (fun p => framesOf (lk s ro p.1 2)) = tb := ⟨_, rfl⟩
  obtain ⟨pg, hpg⟩ : ∃ pg, (posL t.size va t.size).map (pgOf s ro) = pg := ⟨_, rfl⟩
  have hpgl : pg.length ≤ t.size := by rw [← hpg, List.length_map]; exact hpl
  have hLpg : ∀ q ∈ L, ((q.1 / 256 : Nat) : Int) ∈ pg := fun q hq => by
    rw [w3] at hq
    obtain ⟨p, hp, rfl⟩ := List.mem_map.1 hq
    rw [← hpg]
    refine List.mem_map.2 ⟨p, hp, ?_⟩
    have hpm := posL_mem _ _ _ p hp
    obtain ⟨ff, _, _, _, _, _, _, _, _, hpa, _⟩ := look_tables (s := s) (root := ro) (va := p.1) (acc := 2) (u := true) (by omega) (w2 p hp)
    unfold pgOf lk
    dsimp only
    rw [hpa, Int.toNat_natCast]; omega
  have hLeq : L.map (fun q => ((q.1 / 256 : Nat) : Int)) = pg := by
    rw [w3, ← hpg, List.map_map]
    refine List.map_congr_left fun p hp => ?_
    have hpm := posL_mem _ _ _ p hp
    obtain ⟨ff, _, _, _, _, _, _, _, _, hpa, _⟩ := look_tables (s := s) (root := ro) (va := p.1) (acc := 2) (u := true) (by omega) (w2 p hp)
    unfold pgOf lk
    dsimp only [Function.comp]
    rw [hpa, Int.toNat_natCast]; omega
  have htbm : ∀ p ∈ posL t.size va t.size, ∀ x ∈ framesOf (lk s ro p.1 2), x ∈ tb := fun p hp x hx => by
    rw [← htb]; exact List.mem_flatMap.2 ⟨p, hp, hx⟩
  rw [htb] at hlt
  rw [htb, hpg]
  rw [hpg] at q3
  -- no page is a table
  unfold c_laws_FnDma_r_2
  have hl2 := fold (fun f i (c : Bool) => l_laws_FnDma_r_2 N s ro va t false f1 f2 l 0 0 ⟨[].toArray⟩ (dmaMem t s' L) [] tb pg (fun b16 => (cond (roomOk (0 + (List.length tb)) 8) (cond (roomOk ((List.length ([] ++ tb)) + (List.length pg)) 8) (c_laws_FnDma_r_4 N s ro va t (cond (Nat.beq (List.length pg) 0) (cond (Nat.beq (List.length tb) 0) false false) false) b16 l 0 0 ⟨[].toArray⟩ (dmaMem t s' L) (([] ++ tb) ++ pg) (0 : Int) ((k false)) ((g_impl_DmaRead N (dmaMem t s' L) ro va (((ByteArray.size t) : Nat) : Int) fun n24 n25 s19 s20 => (g_spec_DmaRead N (dmaMem t s' L) ro va (((ByteArray.size t) : Nat) : Int) fun n26 n27 s21 s22 => (oK (cond (n24 == n26) (cond (decide ((s19 = s21))) (cond (!b16) (some true) (cond (n24 != (0 : Int)) (some true) (some (decide (s19 = t))))) (some false)) (some false)) fun j6 => (k j6)))))) none) none)) f c i) pg.length (fun i c => c && !(tb.any fun x => x == gi pg i)) (fun _ _ => True) _ (fun f i c hi _ => by
      have hw : IntKind.wrap .i64 ((i : Int) + 1) = ((i + 1 : Nat) : Int) := by rw [w64 (by omega) (by omega)]; omega
      refine ⟨?_, trivial⟩
      rw [l_laws_FnDma_r_2, s_laws_FnDma_r_2, decide_eq_true (show (i : Int) < (pg.length : Int) by omega), cond_true, dec_nn, Bool.and_self, cond_true, Int.toNat_natCast, elemK_some (gi_some hi), lwHas_eq N (by omega) hN, hw]
      cases c <;> rfl) (fun f c _ => by
      rw [l_laws_FnDma_r_2, s_laws_FnDma_r_2, decide_eq_false (by omega), cond_false]) (s := cl) trivial (f := N) (by omega)
  refine hl2.1.trans ?_
  have hfold : ∀ (n : Nat) (c : Bool), n ≤ pg.length → (List.range n).foldl (fun c i => c && !(tb.any fun x => x == gi pg i)) c = true → c = true ∧ ∀ i, i < n → ¬ gi pg i ∈ tb := by
    intro n
    induction n with
    | zero => intro c _ h; exact ⟨h, fun i hi => absurd hi (by omega)⟩
    | succ n ih =>
      intro c hn h
      rw [List.range_succ, List.foldl_append] at h
      have h : ((List.range n).foldl (fun c i => c && !(tb.any fun x => x == gi pg i)) c && !(tb.any fun x => x == gi pg n)) = true := h
      rw [Bool.and_eq_true, Bool.not_eq_true'] at h
      obtain ⟨h1, h2⟩ := ih c (by omega) h.1
      refine ⟨h1, fun i hi hm => ?_⟩
      by_cases hin : i = n
      · subst hin
        have := List.any_eq_false.1 h.2 _ hm
        simp at this
      · exact h2 i (by omega) hm
  have hfold := hfold pg.length cl (Nat.le_refl _)
  generalize (List.range pg.length).foldl (fun c i => c && !(tb.any fun x => x == gi pg i)) cl = c2 at hfold
  rw [room (by omega) (by omega), cond_true, List.nil_append, room (by omega) (by omega), cond_true]
  -- no other frame changes
  unfold c_laws_FnDma_r_4
  have hmz : (dmaMem t s' L).size = s.size := by rw [k1, g1]
  obtain ⟨nf, hnf⟩ : ∃ nf, s.size = nf * 256 := ⟨s.size / 256, by have := hg.fr; omega⟩
  have hsle := hg.le
  obtain ⟨m, hm⟩ : ∃ m, dmaMem t s' L = m := ⟨_, rfl⟩
  rw [hm] at k1 k2 hmz ⊢
  have hs4 := fun kR kN => srch (R := R) (l_laws_FnDma_r_4 N s ro va t (cond (Nat.beq (List.length pg) 0) (cond (Nat.beq (List.length tb) 0) false false) false) c2 l 0 0 ⟨[].toArray⟩ m (tb ++ pg) kR kN) nf (fun _ => false) kR kN (fun f i hi => by
    have hw : IntKind.wrap .i64 ((i : Int) + 1) = ((i + 1 : Nat) : Int) := by rw [w64 (by omega) (by omega)]; omega
    have ef : IntKind.wrap .i64 (Int.tdiv (s.size : Int) 256) = (nf : Int) := by rw [Int.tdiv_eq_ediv_of_nonneg (by omega), w64 (by omega) (by omega)]; omega
    have hmay : (cond (!decide (frame s i = frame m i)) (some (!((tb ++ pg).any fun x => x == (i : Int)))) (some false)) = some false := by
      by_cases he : frame s i = frame m i
      · rw [decide_eq_true he]; rfl
      · rw [decide_eq_false he, Bool.not_false, cond_true]
        have : ((tb ++ pg).any fun x => x == (i : Int)) = true := by
          rw [List.any_eq_true]
          refine Classical.byContradiction fun hno => he ?_
          have hno2 : ∀ x ∈ tb ++ pg, x ≠ (i : Int) := fun x hx e => hno ⟨x, hx, by rw [e]; exact beq_self_eq_true _⟩
          have e1 := w4 i (by omega) fun p hp hmem => hno2 _ (List.mem_append_left _ (htbm p hp _ hmem)) rfl
          have e2 := k2 i (by rw [g1]; omega) fun q hq e => hno2 _ (List.mem_append_right _ (hLpg q hq)) (by rw [e])
          rw [e2, e1]
        rw [this]; rfl
    rw [l_laws_FnDma_r_4, s_laws_FnDma_r_4, ef, decide_eq_true (show (i : Int) < (nf : Int) by omega), cond_true, lwFrame_eq N (by omega) (by omega), lwFrame_eq N (by omega) (by omega), lwHas_eq N (by rw [List.length_append]; omega) hN, hmay, oK_some_eq, cond_false, hw, cond_false]) (fun f => by
    have ef : IntKind.wrap .i64 (Int.tdiv (s.size : Int) 256) = (nf : Int) := by rw [Int.tdiv_eq_ediv_of_nonneg (by omega), w64 (by omega) (by omega)]; omega
    rw [l_laws_FnDma_r_4, s_laws_FnDma_r_4, ef, decide_eq_false (by omega), cond_false]) (f := N) (by omega)
  refine (hs4 _ _).trans ?_
  have hany : (List.range nf).any (fun _ => false) = false := by
    rw [List.any_eq_false]; intro x _; exact Bool.false_ne_true
  rw [hany, cond_false]
  -- what is read
  obtain ⟨c, p, d, m', hI2, hS2, hback⟩ := DmaRead_form (R := R) N (s := m) (ro := ro) (va := va) (n := t.size) hN
  rw [hI2, hS2, beq_self_eq_true, cond_true, decide_eq_true (rfl : d = d), cond_true]
  cases hc2 : c2 with
  | false => rfl
  | true =>
    obtain ⟨hcl1, hno⟩ := hfold hc2
    by_cases hc : c = 0
    · obtain ⟨m2, L2, hb1, hb2, hb3⟩ := hback hc
      have hd := dma_back hg han hw hm.symm hb2 (by
        have := q3 hcl1
        rw [← hLeq] at this
        rw [List.pairwise_map] at this ⊢
        exact this.imp fun h e => h (by rw [e])) (fun p hp q hq hmem => by
        obtain ⟨i, hi⟩ := List.getElem?_of_mem (hLpg q hq)
        rw [← nth_eq] at hi
        have hil : i < pg.length := by
          rcases Nat.lt_or_ge i pg.length with h | h
          · exact h
          · rw [nth_eq, List.getElem?_eq_none h] at hi; cases hi
        have hgi : gi pg i = ((q.1 / 256 : Nat) : Int) := by unfold gi; rw [hi]; rfl
        refine hno i hil ?_
        rw [hgi]
        exact htbm p hp _ hmem)
      rw [hc, bne_self_eq_false, Bool.not_true, cond_false, cond_false, hb3, hd, decide_eq_true rfl]
      rfl
    · have : (c != 0) = true := by simpa using hc
      rw [this]; rfl

end
end Go.Sa
