import Derived.Test.YtjimjkhpahegjaaW1
set_option linter.all false
namespace Go.Sa
open Go Go.Eng
section
variable {R : Type} (N : Nat)
variable {R : Type}

@[simp] theorem laws_toKeySlot_eq (a0 : Int) (a1 : ByteArray) (a2 : ByteArray) (k : Option R) : g_laws_toKeySlot N a0 a1 a2 k = k := rfl

theorem laws_toKeySlotS_r_eq {l : List KeySlot} {b : Bool} (hl : l.length ≤ 2 ^ 40) (hN : 2 ^ 40 < N) (k : List KeySlot → Option R) : g_laws_toKeySlotS_r N b l k = k l := by
  unfold g_laws_toKeySlotS_r
  rw [Int.toNat_natCast, room (by omega) (by omega), dec_self]
  unfold c_laws_toKeySlotS_r_0
  refine (copyl (l_laws_toKeySlotS_r_0 N b false l (fun l4 => k l4)) l (fun x => x) k (fun f i ys x hi hy hx => ?_) (fun f ys hy => ?_) (by simp) (by omega)).trans (by rw [List.map_id'])
  · obtain ⟨y, hy1⟩ := nth_some (l := ys) (n := i) (by omega)
    simp only [l_laws_toKeySlotS_r_0, s_laws_toKeySlotS_r_0, laws_toKeySlot_eq, dec_lt hi, dec_nn, Int.toNat_natCast, elemK_some hx, elemK_some hy1, dec_lt (show i < ys.length by omega), blt_t (show i < ys.length by omega), wrap_next hi (by omega), Bool.and_true, cond_true]
  · simp only [l_laws_toKeySlotS_r_0, s_laws_toKeySlotS_r_0, dec_nlt, cond_false]

theorem laws_eqKeySlot_eq (x y : KeySlot) (k : Bool → Option R) : g_laws_eqKeySlot N x.fSalt x.fKey x.fTag y.fSalt y.fKey y.fTag k = k (decide (x = y)) := by
  unfold g_laws_eqKeySlot
  by_cases h0 : x.fSalt = y.fSalt
  case neg =>
    rw [decide_eq_false (show ¬ x = y from fun e => h0 (by rw [e]))]
    simp only [bne_dec, beq_dec, h0, decide_false, Bool.not_false, cond_true]
  simp only [bne_dec, beq_dec, h0, decide_true, Bool.not_true, cond_false]
  by_cases h1 : x.fKey = y.fKey
  case neg =>
    rw [decide_eq_false (show ¬ x = y from fun e => h1 (by rw [e]))]
    simp only [bne_dec, beq_dec, h1, decide_false, Bool.not_false, cond_true]
  simp only [bne_dec, beq_dec, h1, decide_true, Bool.not_true, cond_false]
  by_cases h2 : x.fTag = y.fTag
  case neg =>
    rw [decide_eq_false (show ¬ x = y from fun e => h2 (by rw [e]))]
    simp only [bne_dec, beq_dec, h2, decide_false, Bool.not_false, cond_true]
  simp only [bne_dec, beq_dec, h2, decide_true, Bool.not_true, cond_false]
  rw [decide_eq_true (show x = y by cases x; cases y; simp_all)]

theorem laws_eqKeySlotS_ww_eq {l m : List KeySlot} {b b1 : Bool} (hl : l.length ≤ 2 ^ 40) (hN : 2 ^ 40 < N) (k : Bool → Option R) : g_laws_eqKeySlotS_ww N b b1 l m k = k (decide (l = m)) := by
  unfold g_laws_eqKeySlotS_ww
  by_cases h : l.length = m.length
  · rw [show ((l.length : Int) != (m.length : Int)) = false by simp [h]]
    unfold c_laws_eqKeySlotS_ww_0
    refine (eql (l_laws_eqKeySlotS_ww_0 N b b1 l m (k false) (k true)) l m h (k false) (k true) (fun f i x y hi hx hy => ?_) (fun f => ?_) (by omega)).trans ?_
    · simp only [l_laws_eqKeySlotS_ww_0, s_laws_eqKeySlotS_ww_0, dec_lt hi, dec_nn, Int.toNat_natCast, elemK_some hx, elemK_some hy, dec_lt (show i < m.length by omega), laws_eqKeySlot_eq, wrap_next hi (by omega), Bool.and_true, cond_true]
    · simp only [l_laws_eqKeySlotS_ww_0, s_laws_eqKeySlotS_ww_0, dec_nlt, cond_false]
    · cases decide (l = m) <;> rfl
  · rw [show ((l.length : Int) != (m.length : Int)) = true by simp; omega]
    rw [decide_eq_false (fun e => h (by rw [e]))]
    rfl

theorem laws_eqKeySlotS_rr_eq {l m : List KeySlot} {b b1 : Bool} (hl : l.length ≤ 2 ^ 40) (hN : 2 ^ 40 < N) (k : Bool → Option R) : g_laws_eqKeySlotS_rr N b b1 l m k = k (decide (l = m)) := by
  unfold g_laws_eqKeySlotS_rr
  by_cases h : l.length = m.length
  · rw [show ((l.length : Int) != (m.length : Int)) = false by simp [h]]
    unfold c_laws_eqKeySlotS_rr_0
    refine (eql (l_laws_eqKeySlotS_rr_0 N b b1 l m (k false) (k true)) l m h (k false) (k true) (fun f i x y hi hx hy => ?_) (fun f => ?_) (by omega)).trans ?_
    · simp only [l_laws_eqKeySlotS_rr_0, s_laws_eqKeySlotS_rr_0, dec_lt hi, dec_nn, Int.toNat_natCast, elemK_some hx, elemK_some hy, dec_lt (show i < m.length by omega), laws_eqKeySlot_eq, wrap_next hi (by omega), Bool.and_true, cond_true]
    · simp only [l_laws_eqKeySlotS_rr_0, s_laws_eqKeySlotS_rr_0, dec_nlt, cond_false]
    · cases decide (l = m) <;> rfl
  · rw [show ((l.length : Int) != (m.length : Int)) = true by simp; omega]
    rw [decide_eq_false (fun e => h (by rw [e]))]
    rfl

theorem laws_eqKeySlotS_rw_eq {l m : List KeySlot} {b b1 : Bool} (hl : l.length ≤ 2 ^ 40) (hN : 2 ^ 40 < N) (k : Bool → Option R) : g_laws_eqKeySlotS_rw N b b1 l m k = k (decide (l = m)) := by
  unfold g_laws_eqKeySlotS_rw
  by_cases h : l.length = m.length
  · rw [show ((l.length : Int) != (m.length : Int)) = false by simp [h]]
    unfold c_laws_eqKeySlotS_rw_0
    refine (eql (l_laws_eqKeySlotS_rw_0 N b b1 l m (k false) (k true)) l m h (k false) (k true) (fun f i x y hi hx hy => ?_) (fun f => ?_) (by omega)).trans ?_
    · simp only [l_laws_eqKeySlotS_rw_0, s_laws_eqKeySlotS_rw_0, dec_lt hi, dec_nn, Int.toNat_natCast, elemK_some hx, elemK_some hy, dec_lt (show i < m.length by omega), laws_eqKeySlot_eq, wrap_next hi (by omega), Bool.and_true, cond_true]
    · simp only [l_laws_eqKeySlotS_rw_0, s_laws_eqKeySlotS_rw_0, dec_nlt, cond_false]
    · cases decide (l = m) <;> rfl
  · rw [show ((l.length : Int) != (m.length : Int)) = true by simp; omega]
    rw [decide_eq_false (fun e => h (by rw [e]))]
    rfl

@[simp] theorem impl_yin_eq (a lo hi : Int) (k : Bool → Option R) : g_impl_yin N a lo hi k = k (decide (a ≥ lo) && decide (a ≤ hi)) := by
  simp [g_impl_yin]

@[simp] theorem impl_yisWord_eq (a : Int) (k : Bool → Option R) : g_impl_yisWord N a k = k (decide (a ≥ 0) && decide (a < 4294967296)) := by
  simp [g_impl_yisWord]

@[simp] theorem spec_l01IsWord_eq (a : Int) (k : Bool → Option R) : g_spec_l01IsWord N a k = k (decide (a ≥ 0) && decide (a < 4294967296)) := by
  simp [g_spec_l01IsWord]

theorem markText_loop (k : ByteArray → Option R) : ∀ (f f' : Nat) (n : Int) (s : ByteArray), 0 ≤ n → n < 10 ^ f → n < 2 ^ 60 → f < f' → s.size + f ≤ 1000 → l_laws_markText_0 N k f' n s = k (mtGo f n s) := by
  intro f
  induction f with
  | zero =>
    intro f' n s h0 h1 _ hf hs
    obtain ⟨f', rfl⟩ : ∃ j, f' = j + 1 := ⟨f' - 1, by omega⟩
    have : n = 0 := by simp at h1; omega
    subst this
    rfl
  | succ f ih =>
    intro f' n s h0 h1 h2 hf hs
    obtain ⟨f', rfl⟩ : ∃ j, f' = j + 1 := ⟨f' - 1, by omega⟩
    unfold mtGo
    by_cases hn : 0 < n
    · have hd : n.tdiv 10 = n / 10 := Int.tdiv_eq_ediv_of_nonneg h0
      have hsz : (toBytes [IntKind.wrap .u8 (IntKind.wrap .i64 (48 + Int.tmod n 10))]).size = 1 := toBytes_size _
      rw [Int.pow_succ] at h1
      simp only [l_laws_markText_0, s_laws_markText_0, decide_eq_true (show n > 0 from hn), seg_all, hsz, ble_t (show 1 + s.size ≤ 9223372036854775807 by omega), cond_true, hd, w64 (show -9223372036854775808 ≤ n / 10 by omega) (show n / 10 < 9223372036854775808 by omega)]
      rw [if_pos hn]
      refine ih f' (n / 10) _ (by omega) (by omega) (by omega) (by omega) ?_
      rw [ByteArray.size_append, hsz]; omega
    · have : n = 0 := by omega
      subst this
      rw [if_neg hn]
      rfl

theorem markText_eq {n : Int} (h1 : 1 ≤ n) (h2 : n < 2 ^ 60) (hN : 2 ^ 40 < N) (k : ByteArray → Option R) : g_laws_markText N n k = k (mt n) := by
  unfold g_laws_markText c_laws_markText_0
  rw [decide_eq_false (by omega), cond_false, markText_loop N _ 20 N n _ (by omega) (Int.lt_trans h2 (by decide)) h2 (by omega) (by decide)]
  have := mtGo_size 20 n ⟨[].toArray⟩
  have h0 : (⟨[].toArray⟩ : ByteArray).size = 0 := rfl
  rw [ble_t (show 1 + (mtGo 20 n ⟨[].toArray⟩).size ≤ 9223372036854775807 by omega)]
  rfl

def rowKeySlot (k : Int) : KeySlot := ⟨k, mt (k + 1), mt (k + 2)⟩

def rowsKeySlot (k : Int) (n : Nat) : List KeySlot := (List.range n).map fun (i : Nat) => rowKeySlot (k + 3 * (i : Int))

theorem nth_rowsKeySlot (k : Int) {n i : Nat} (h : i < n) : nth (rowsKeySlot k n) i = some (rowKeySlot (k + 3 * (i : Int))) := by
  unfold rowsKeySlot
  rw [nth_map, nth_eq, List.getElem?_range h]
  rfl

theorem rowsKeySlot_length (k : Int) (n : Nat) : (rowsKeySlot k n).length = n := by simp [rowsKeySlot]

theorem laws_markKeySlotS_w_eq {l : List KeySlot} {b : Bool} {k : Int} (hl : l.length ≤ 2 ^ 40) (hk : 1 ≤ k) (hk2 : k ≤ 2 ^ 50) (hN : 2 ^ 40 < N) (K : Int → List KeySlot → Option R) : g_laws_markKeySlotS_w N b k l K = K (k + 3 * (l.length : Int)) (rowsKeySlot k l.length) := by
  unfold g_laws_markKeySlotS_w c_laws_markKeySlotS_w_0
  obtain ⟨h1, h2, h3, h4⟩ := fold (fun f i (s : Int × List KeySlot) => l_laws_markKeySlotS_w_0 N b (fun n l => K n l) f s.1 i s.2) l.length (fun i s => (s.1 + 3, nset s.2 i (rowKeySlot s.1))) (fun i s => s.1 = k + 3 * (i : Int) ∧ s.2.length = l.length ∧ ∀ j : Nat, j < i → nth s.2 j = some (rowKeySlot (k + 3 * (j : Int)))) (fun s => K s.1 s.2)
    (fun f i s0 hi hs => by
      obtain ⟨s, ys⟩ := s0
      obtain ⟨hs1, hs2, hs3⟩ := hs
      dsimp only at hs1 hs2 hs3
      obtain ⟨x, hx⟩ := nth_some (l := ys) (n := i) (by omega)
      have e1 : IntKind.wrap .i64 (s + 1) = s + 1 := by rw [w64 (by omega) (by omega)]
      have e2 : IntKind.wrap .i64 (s + 1 + 1) = s + 2 := by rw [w64 (by omega) (by omega)]; omega
      have e3 : IntKind.wrap .i64 (s + 2 + 1) = s + 3 := by rw [w64 (by omega) (by omega)]; omega
      have m1 : ∀ K : ByteArray → Option R, g_laws_markText N (s + 1) K = K (mt (s + 1)) := fun K => markText_eq N (by omega) (by omega) hN K
      have m2 : ∀ K : ByteArray → Option R, g_laws_markText N (s + 2) K = K (mt (s + 2)) := fun K => markText_eq N (by omega) (by omega) hN K
      refine ⟨?_, by dsimp only; omega, by simpa using hs2, fun j hj => ?_⟩
      · simp only [l_laws_markKeySlotS_w_0, s_laws_markKeySlotS_w_0, dec_lt hi, dec_lt (show i < ys.length by omega), dec_nn, Int.toNat_natCast, hs2, nset_length, elemK_some hx, elemK_nset (show i < ys.length by omega), nset_nset, blt_t hi, blt_t (show i < ys.length by omega), wrap_next hi (by omega), Bool.and_true, cond_true, e1, e2, e3, m1, m2]
        rfl
      · dsimp only
        rw [nth_nset]
        split
        · rename_i hc; obtain ⟨rfl, _⟩ := hc; rw [hs1]
        · rename_i hc; exact hs3 j (by have : j ≠ i := fun e => hc ⟨e, by omega⟩; omega))
    (fun f s0 hs => by
      obtain ⟨s, ys⟩ := s0
      obtain ⟨hs1, hs2, hs3⟩ := hs
      dsimp only at hs2
      simp only [l_laws_markKeySlotS_w_0, s_laws_markKeySlotS_w_0, hs2, dec_nlt, cond_false]) (s := (k, l)) ⟨by simp, rfl, fun j hj => by omega⟩ (f := N) (by omega)
  refine h1.trans ?_
  rw [h2]
  congr 1
  refine ext_nth fun j => ?_
  rcases Nat.lt_or_ge j l.length with hj | hj
  · rw [h4 j hj, nth_rowsKeySlot k hj]
  · rw [nth_none (by rw [h3]; exact hj), nth_none (by rw [rowsKeySlot_length]; exact hj)]

theorem laws_heldKeySlotS_w_eq {n : Nat} {b : Bool} {k : Int} (hl : n ≤ 2 ^ 40) (hk : 1 ≤ k) (hk2 : k ≤ 2 ^ 50) (hN : 2 ^ 40 < N) (K : Int → Option R) : g_laws_heldKeySlotS_w N b k (rowsKeySlot k n) K = K (k + 3 * (n : Int)) := by
  unfold g_laws_heldKeySlotS_w c_laws_heldKeySlotS_w_0
  obtain ⟨h1, h2⟩ := fold (fun f i (s : Int) => l_laws_heldKeySlotS_w_0 N b (rowsKeySlot k n) (fun _ => K (-1)) (fun n => K n) f s i) n (fun _ s => s + 3) (fun i s => s = k + 3 * (i : Int)) (fun s => K s)
    (fun f i s hi hs => by
      have hr : rowKeySlot (k + 3 * (i : Int)) = rowKeySlot s := by rw [hs]
      have hx : nth (rowsKeySlot k n) i = some (rowKeySlot s) := by rw [nth_rowsKeySlot k hi, hr]
      have e1 : IntKind.wrap .i64 (s + 1) = s + 1 := by rw [w64 (by omega) (by omega)]
      have e2 : IntKind.wrap .i64 (s + 1 + 1) = s + 2 := by rw [w64 (by omega) (by omega)]; omega
      have e3 : IntKind.wrap .i64 (s + 2 + 1) = s + 3 := by rw [w64 (by omega) (by omega)]; omega
      have m1 : ∀ K : ByteArray → Option R, g_laws_markText N (s + 1) K = K (mt (s + 1)) := fun K => markText_eq N (by omega) (by omega) hN K
      have m2 : ∀ K : ByteArray → Option R, g_laws_markText N (s + 2) K = K (mt (s + 2)) := fun K => markText_eq N (by omega) (by omega) hN K
      refine ⟨?_, by omega⟩
      simp only [l_laws_heldKeySlotS_w_0, s_laws_heldKeySlotS_w_0, rowsKeySlot_length, dec_lt hi, dec_nn, Int.toNat_natCast, elemK_some hx, rowKeySlot, bne_self_eq_false, beq_self_eq_true, decide_true, Bool.not_true, cond_false, wrap_next hi (by omega), Bool.and_true, cond_true, e1, e2, e3, m1, m2])
    (fun f s hs => by
      simp only [l_laws_heldKeySlotS_w_0, s_laws_heldKeySlotS_w_0, rowsKeySlot_length, dec_nlt, cond_false]) (s := k) (by simp) (f := N) (by omega)
  refine h1.trans ?_
  rw [h2]

theorem laws_heldKeySlotS_r_eq {n : Nat} {b : Bool} {k : Int} (hl : n ≤ 2 ^ 40) (hk : 1 ≤ k) (hk2 : k ≤ 2 ^ 50) (hN : 2 ^ 40 < N) (K : Int → Option R) : g_laws_heldKeySlotS_r N b k (rowsKeySlot k n) K = K (k + 3 * (n : Int)) := by
  unfold g_laws_heldKeySlotS_r c_laws_heldKeySlotS_r_0
  obtain ⟨h1, h2⟩ := fold (fun f i (s : Int) => l_laws_heldKeySlotS_r_0 N b (rowsKeySlot k n) (fun _ => K (-1)) (fun n => K n) f s i) n (fun _ s => s + 3) (fun i s => s = k + 3 * (i : Int)) (fun s => K s)
    (fun f i s hi hs => by
      have hr : rowKeySlot (k + 3 * (i : Int)) = rowKeySlot s := by rw [hs]
      have hx : nth (rowsKeySlot k n) i = some (rowKeySlot s) := by rw [nth_rowsKeySlot k hi, hr]
      have e1 : IntKind.wrap .i64 (s + 1) = s + 1 := by rw [w64 (by omega) (by omega)]
      have e2 : IntKind.wrap .i64 (s + 1 + 1) = s + 2 := by rw [w64 (by omega) (by omega)]; omega
      have e3 : IntKind.wrap .i64 (s + 2 + 1) = s + 3 := by rw [w64 (by omega) (by omega)]; omega
      have m1 : ∀ K : ByteArray → Option R, g_laws_markText N (s + 1) K = K (mt (s + 1)) := fun K => markText_eq N (by omega) (by omega) hN K
      have m2 : ∀ K : ByteArray → Option R, g_laws_markText N (s + 2) K = K (mt (s + 2)) := fun K => markText_eq N (by omega) (by omega) hN K
      refine ⟨?_, by omega⟩
      simp only [l_laws_heldKeySlotS_r_0, s_laws_heldKeySlotS_r_0, rowsKeySlot_length, dec_lt hi, dec_nn, Int.toNat_natCast, elemK_some hx, rowKeySlot, bne_self_eq_false, beq_self_eq_true, decide_true, Bool.not_true, cond_false, wrap_next hi (by omega), Bool.and_true, cond_true, e1, e2, e3, m1, m2])
    (fun f s hs => by
      simp only [l_laws_heldKeySlotS_r_0, s_laws_heldKeySlotS_r_0, rowsKeySlot_length, dec_nlt, cond_false]) (s := k) (by simp) (f := N) (by omega)
  refine h1.trans ?_
  rw [h2]

def runE {S : Type} (bad : Nat → S → Bool) (g : Nat → S → S) : Nat → Nat → S → Option S
  | 0, _, s => some s
  | d + 1, i, s => cond (bad i s) none (runE bad g d (i + 1) (g i s))

/-- A fold that may be left, by a test on its state. -/
theorem foldS {S : Type} (l : Nat → Int → S → Option R) (n : Nat) (bad : Nat → S → Bool) (g : Nat → S → S) (I : Nat → S → Prop) (k : S → Option R) (k0 : Option R)
    (h : ∀ f i s, i < n → I i s → l (f + 1) (i : Int) s = cond (bad i s) k0 (l f ((i + 1 : Nat) : Int) (g i s)) ∧ (bad i s = false → I (i + 1) (g i s)))
    (he : ∀ f s, I n s → l (f + 1) (n : Int) s = k s) {s : S} (hs : I 0 s) {f : Nat} (hf : n < f) :
    (l f 0 s = match runE bad g n 0 s with | some s' => k s' | none => k0) ∧ ∀ s', runE bad g n 0 s = some s' → I n s' := by
  have key : ∀ d i f s, i + d = n → d < f → I i s → (l f (i : Int) s = match runE bad g d i s with | some s' => k s' | none => k0) ∧ ∀ s', runE bad g d i s = some s' → I n s' := by
    intro d
    induction d with
    | zero =>
      intro i f s hi hf hs
      obtain ⟨f, rfl⟩ : ∃ j, f = j + 1 := ⟨f - 1, by omega⟩
      have : i = n := by omega
      subst this
      refine ⟨he f s hs, fun s' e => ?_⟩
      simp only [runE, Option.some.injEq] at e
      subst e
      exact hs
    | succ d ih =>
      intro i f s hi hf hs
      obtain ⟨f, rfl⟩ : ∃ j, f = j + 1 := ⟨f - 1, by omega⟩
      obtain ⟨h1, h2⟩ := h f i s (by omega) hs
      rw [h1]
      simp only [runE]
      cases hb : bad i s with
      | true => exact ⟨rfl, fun s' e => by cases e⟩
      | false => exact ih (i + 1) f _ (by omega) (by omega) (h2 hb)
  exact key n 0 f s (by omega) hf hs

def isW (x : Int) : Bool := decide (x ≥ 0) && decide (x < 4294967296)

def slotBad (x : KeySlot) : Bool := !isW x.fSalt || ((x.fKey.size : Int) != 16 || (x.fTag.size : Int) != 8)

def volBad (s : ByteArray) (l : List KeySlot) : Bool := !(decide (1 ≤ l.length) && decide (l.length ≤ 4)) || ((s.size : Int) != 8 || l.any slotBad)

theorem spec_VolumeFault_w_eq {s : ByteArray} {l : List KeySlot} {b : Bool} (hN : 2 ^ 40 < N) (k : Int → Option R) : g_spec_VolumeFault_w N b s l k = k (cond (volBad s l) 1 0) := by
  unfold g_spec_VolumeFault_w
  simp only [cond_somes, oK_some_eq, Bool.cond_true_left]
  have h1 : (decide ((l.length : Int) < 1) || (decide ((l.length : Int) > 4) || (s.size : Int) != 8)) = (!(decide (1 ≤ l.length) && decide (l.length ≤ 4)) || (s.size : Int) != 8) := by
    have a1 : decide ((l.length : Int) < 1) = !decide (1 ≤ l.length) := by rw [← decide_not]; exact decide_eq_decide.2 (by omega)
    have a2 : decide ((l.length : Int) > 4) = !decide (l.length ≤ 4) := by rw [Bool.eq_iff_iff]; simp; omega
    rw [a1, a2]
    cases decide (1 ≤ l.length) <;> cases decide (l.length ≤ 4) <;> rfl
  rw [h1]
  unfold volBad
  rw [← Bool.or_assoc]
  cases h : (!(decide (1 ≤ l.length) && decide (l.length ≤ 4)) || (s.size : Int) != 8) with
  | true => rfl
  | false =>
    have hl : l.length ≤ 4 := by
      cases hc : decide (l.length ≤ 4) with
      | true => exact of_decide_eq_true hc
      | false => rw [hc, Bool.and_false] at h; cases h
    rw [cond_false, Bool.false_or]
    unfold c_spec_VolumeFault_w_0
    rw [srch (l_spec_VolumeFault_w_0 N l b s (k 1) (k 0)) l.length (fun i => atD l i slotBad true) (k 1) (k 0) (fun f i hi => ?_) (fun f => ?_) (by omega), any_atD]
    · cases l.any slotBad <;> rfl
    · obtain ⟨x, hx⟩ := nth_some hi
      simp only [l_spec_VolumeFault_w_0, s_spec_VolumeFault_w_0, dec_lt hi, dec_nn, Int.toNat_natCast, elemK_some hx, wrap_next hi (by omega), Bool.and_true, cond_true, atD_some hx, spec_l01IsWord_eq, cond_somes, oK_some_eq, Bool.cond_true_left]
      rfl
    · simp only [l_spec_VolumeFault_w_0, s_spec_VolumeFault_w_0, dec_nlt, cond_false]

theorem indexFunc_slot_eq {l : List KeySlot} {b : Bool} (hl : l.length ≤ 2 ^ 40) (hN : 2 ^ 40 < N) (k : Int → Option R) : g_slices_IndexFunc_KeySlot_Fimpl_VolumeFault_1_r N b l k = k (fstAt l.length (fun i => atD l i slotBad true)) := by
  unfold g_slices_IndexFunc_KeySlot_Fimpl_VolumeFault_1_r c_slices_IndexFunc_KeySlot_Fimpl_VolumeFault_1_r_0
  rw [srchI (l_slices_IndexFunc_KeySlot_Fimpl_VolumeFault_1_r_0 N b l.length l (fun n3 => k n3) (k (-1))) l.length (fun i => atD l i slotBad true) (fun n3 => k n3) (k (-1)) (fun f i hi => ?_) (fun f => ?_) (by omega)]
  · unfold fstAt
    split <;> rfl
  · obtain ⟨x, hx⟩ := nth_some hi
    simp only [l_slices_IndexFunc_KeySlot_Fimpl_VolumeFault_1_r_0, s_slices_IndexFunc_KeySlot_Fimpl_VolumeFault_1_r_0, dec_lt hi, dec_nn, Int.toNat_natCast, elemK_some hx, wrap_next hi (by omega), Bool.and_true, cond_true, atD_some hx, g_impl_VolumeFault_1, impl_yisWord_eq, cond_somes, oK_some_eq, Bool.cond_true_left]
    rfl
  · simp only [l_slices_IndexFunc_KeySlot_Fimpl_VolumeFault_1_r_0, s_slices_IndexFunc_KeySlot_Fimpl_VolumeFault_1_r_0, dec_nlt, cond_false]

theorem impl_VolumeFault_w_eq {s : ByteArray} {l : List KeySlot} {b : Bool} (hN : 2 ^ 40 < N) (k : Int → Option R) : g_impl_VolumeFault_w N b s l k = k (cond (volBad s l) 1 0) := by
  unfold g_impl_VolumeFault_w g_slices_ContainsFunc_KeySlot_Fimpl_VolumeFault_1_r
  have h1 : decide ((l.length : Int) ≥ 1) = decide (1 ≤ l.length) := decide_eq_decide.2 (by omega)
  have h2 : decide ((l.length : Int) ≤ 4) = decide (l.length ≤ 4) := decide_eq_decide.2 (by omega)
  rw [impl_yin_eq, h1, h2]
  unfold volBad
  by_cases hl : l.length ≤ 4
  · rw [indexFunc_slot_eq N (by omega) hN]
    simp only [fstAt_nonneg, any_atD, cond_somes, oK_some_eq, Bool.cond_true_left]
    exact cond_app _ k 1 0
  · rw [decide_eq_false hl, Bool.and_false]; rfl

theorem volBad_len {s : ByteArray} {l : List KeySlot} (h : volBad s l = false) : 1 ≤ l.length ∧ l.length ≤ 4 := by
  unfold volBad at h
  simp at h
  omega

def dropCode (s : ByteArray) (n : Int) (l : List KeySlot) : Int := cond (volBad s l) 1 (cond (!(decide (0 ≤ n) && decide (n < (l.length : Int)))) 5 (cond ((l.length : Int) == 1) 6 0))

def dropL (n : Nat) (l : List KeySlot) : List KeySlot := l.take n ++ l.drop (n + 1)

def slot0 : KeySlot := ⟨0, ⟨[].toArray⟩, ⟨[].toArray⟩⟩

theorem dropCode_zero {s : ByteArray} {n : Int} {l : List KeySlot} (h : dropCode s n l = 0) : volBad s l = false ∧ 0 ≤ n ∧ n < (l.length : Int) ∧ l.length ≠ 1 ∧ l.length ≤ 4 := by
  unfold dropCode at h
  cases hv : volBad s l with
  | true => rw [hv] at h; cases h
  | false =>
    have := volBad_len hv
    rw [hv, cond_false] at h
    by_cases h1 : 0 ≤ n ∧ n < (l.length : Int)
    · rw [decide_eq_true h1.1, decide_eq_true h1.2] at h
      by_cases h2 : l.length = 1
      · rw [h2] at h; cases h
      · exact ⟨rfl, h1.1, h1.2, h2, this.2⟩
    · have h3 : (decide (0 ≤ n) && decide (n < (l.length : Int))) = false := by simp; omega
      rw [h3] at h; cases h

theorem spec_DropPass_eq {s : ByteArray} {n : Int} {l : List KeySlot} {b : Bool} (hN : 2 ^ 40 < N) (k : Int → Bool → ByteArray → List KeySlot → Option R) :
    g_spec_DropPass_w N b s n l k = cond (dropCode s n l != 0) (k (dropCode s n l) true ⟨[].toArray⟩ []) (k 0 false s (dropL n.toNat l)) := by
  by_cases hz : dropCode s n l = 0
  · obtain ⟨hv, h0, h1, h2, h3⟩ := dropCode_zero hz
    rw [hz]
    unfold g_spec_DropPass_w
    rw [spec_VolumeFault_w_eq N hN, hv]
    obtain ⟨i, rfl⟩ : ∃ i : Nat, n = (i : Int) := ⟨n.toNat, by omega⟩
    have hi : i < l.length := by omega
    match l, i, hi, h2, h3 with
    | [a, c], 0, _, _, _ => rfl
    | [a, c], 1, _, _, _ => rfl
    | [a, c, d], 0, _, _, _ => rfl
    | [a, c, d], 1, _, _, _ => rfl
    | [a, c, d], 2, _, _, _ => rfl
    | [a, c, d, e], 0, _, _, _ => rfl
    | [a, c, d, e], 1, _, _, _ => rfl
    | [a, c, d, e], 2, _, _, _ => rfl
    | [a, c, d, e], 3, _, _, _ => rfl
  · have hb : (dropCode s n l != 0) = true := by simpa using hz
    rw [hb, cond_true]
    unfold g_spec_DropPass_w
    rw [spec_VolumeFault_w_eq N hN]
    unfold dropCode at hz ⊢
    cases hv : volBad s l with
    | true => rfl
    | false =>
      rw [hv, cond_false] at hz
      simp only [cond_false]
      by_cases hn : 0 ≤ n ∧ n < (l.length : Int)
      · rw [decide_eq_true hn.1, decide_eq_true hn.2] at hz
        have hl1 : ((l.length : Int) == 1) = true := by
          cases hc : ((l.length : Int) == 1) with
          | true => rfl
          | false => rw [hc] at hz; exact absurd rfl hz
        rw [decide_eq_true hn.1, decide_eq_true hn.2, decide_eq_false (show ¬ n < 0 by omega), decide_eq_false (show ¬ n ≥ (l.length : Int) by omega), hl1]; rfl
      · have hj : (cond (decide (n < 0)) (some true) (some (decide (n ≥ (l.length : Int))))) = some true := by
          by_cases h0 : n < 0
          · rw [decide_eq_true h0]; rfl
          · rw [decide_eq_false h0, decide_eq_true (show n ≥ (l.length : Int) by omega)]; rfl
        have hf : (decide (0 ≤ n) && decide (n < (l.length : Int))) = false := by simp; omega
        rw [hj, hf]; rfl

theorem impl_DropPass_eq {s : ByteArray} {n : Int} {l : List KeySlot} {b : Bool} (hb : b = false) (hN : 2 ^ 40 < N) (k : Int → Bool → ByteArray → List KeySlot → Option R) (k1 : Nat → Nat → Bool → List KeySlot → Option R) :
    g_impl_DropPass_w N b s n l k k1 = cond (dropCode s n l != 0) (k (dropCode s n l) true ⟨[].toArray⟩ []) (k1 (l.length - 1) 1 false (dropL n.toNat l ++ [slot0])) := by
  subst hb
  by_cases hz : dropCode s n l = 0
  · obtain ⟨hv, h0, h1, h2, h3⟩ := dropCode_zero hz
    rw [hz]
    unfold g_impl_DropPass_w
    rw [impl_VolumeFault_w_eq N hN, hv]
    obtain ⟨i, rfl⟩ : ∃ i : Nat, n = (i : Int) := ⟨n.toNat, by omega⟩
    have hi : i < l.length := by omega
    match l, i, hi, h2, h3 with
    | [a, c], 0, _, _, _ => rfl
    | [a, c], 1, _, _, _ => rfl
    | [a, c, d], 0, _, _, _ => rfl
    | [a, c, d], 1, _, _, _ => rfl
    | [a, c, d], 2, _, _, _ => rfl
    | [a, c, d, e], 0, _, _, _ => rfl
    | [a, c, d, e], 1, _, _, _ => rfl
    | [a, c, d, e], 2, _, _, _ => rfl
    | [a, c, d, e], 3, _, _, _ => rfl
  · have hb : (dropCode s n l != 0) = true := by simpa using hz
    rw [hb, cond_true]
    unfold g_impl_DropPass_w
    rw [impl_VolumeFault_w_eq N hN]
    unfold dropCode at hz ⊢
    cases hv : volBad s l with
    | true => rfl
    | false =>
      have hlen := volBad_len hv
      rw [hv, cond_false] at hz
      simp only [cond_false, impl_yin_eq]
      have hw : IntKind.wrap .i64 ((l.length : Int) - 1) = (l.length : Int) - 1 := w64 (by omega) (by omega)
      rw [hw]
      by_cases hn : 0 ≤ n ∧ n < (l.length : Int)
      · rw [decide_eq_true hn.1, decide_eq_true hn.2] at hz
        have hl1 : ((l.length : Int) == 1) = true := by
          cases hc : ((l.length : Int) == 1) with
          | true => rfl
          | false => rw [hc] at hz; exact absurd rfl hz
        rw [decide_eq_true hn.1, decide_eq_true hn.2, decide_eq_true (show n ≤ (l.length : Int) - 1 by omega), hl1]; rfl
      · have hf : (decide (0 ≤ n) && decide (n < (l.length : Int))) = false := by simp; omega
        have hf2 : (decide (n ≥ 0) && decide (n ≤ (l.length : Int) - 1)) = false := by simp; omega
        rw [hf, hf2]; rfl

/-- The marks, laid through a window at the start. -/
theorem laws_markKeySlotS_w_v1_eq {l : List KeySlot} {m e : Nat} {b : Bool} {k : Int} (hm : m ≤ l.length) (hl : l.length ≤ 2 ^ 40) (hk : 1 ≤ k) (hk2 : k ≤ 2 ^ 50) (hN : 2 ^ 40 < N) (K : Int → List KeySlot → Option R) : g_laws_markKeySlotS_w_v1 N 0 m e b k l K = K (k + 3 * (m : Int)) (rowsKeySlot k m ++ l.drop m) := by
  unfold g_laws_markKeySlotS_w_v1 c_laws_markKeySlotS_w_v1_0
  obtain ⟨h1, h2, h3, h4, h5⟩ := fold (fun f i (s : Int × List KeySlot) => l_laws_markKeySlotS_w_v1_0 N 0 m e b (fun n l => K n l) f s.1 i s.2) m (fun i s => (s.1 + 3, nset s.2 i (rowKeySlot s.1))) (fun i s => s.1 = k + 3 * (i : Int) ∧ s.2.length = l.length ∧ (∀ j : Nat, j < i → nth s.2 j = some (rowKeySlot (k + 3 * (j : Int)))) ∧ ∀ j : Nat, i ≤ j → nth s.2 j = nth l j) (fun s => K s.1 s.2)
    (fun f i s0 hi hs => by
      obtain ⟨s, ys⟩ := s0
      obtain ⟨hs1, hs2, hs3, hs4⟩ := hs
      dsimp only at hs1 hs2 hs3 hs4
      obtain ⟨x, hx⟩ := nth_some (l := ys) (n := i) (by omega)
      have e1 : IntKind.wrap .i64 (s + 1) = s + 1 := by rw [w64 (by omega) (by omega)]
      have e2 : IntKind.wrap .i64 (s + 1 + 1) = s + 2 := by rw [w64 (by omega) (by omega)]; omega
      have e3 : IntKind.wrap .i64 (s + 2 + 1) = s + 3 := by rw [w64 (by omega) (by omega)]; omega
      have m1 : ∀ K : ByteArray → Option R, g_laws_markText N (s + 1) K = K (mt (s + 1)) := fun K => markText_eq N (by omega) (by omega) hN K
      have m2 : ∀ K : ByteArray → Option R, g_laws_markText N (s + 2) K = K (mt (s + 2)) := fun K => markText_eq N (by omega) (by omega) hN K
      refine ⟨?_, by dsimp only; omega, by simpa using hs2, fun j hj => ?_, fun j hj => ?_⟩
      · simp only [l_laws_markKeySlotS_w_v1_0, s_laws_markKeySlotS_w_v1_0, dec_lt hi, dec_nn, Int.toNat_natCast, Nat.add_zero, nset_length, elemK_some hx, elemK_nset (show i < ys.length by omega), nset_nset, blt_t (show i < ys.length by omega), wrap_next hi (by omega), Bool.and_true, cond_true, e1, e2, e3, m1, m2]
        rfl
      · dsimp only
        rw [nth_nset]
        split
        · rename_i hc; obtain ⟨rfl, _⟩ := hc; rw [hs1]
        · rename_i hc; exact hs3 j (by have : j ≠ i := fun e => hc ⟨e, by omega⟩; omega)
      · dsimp only
        rw [nth_nset, if_neg (fun e => by have := e.1; omega)]
        exact hs4 j (by omega))
    (fun f s0 hs => by
      obtain ⟨s, ys⟩ := s0
      simp only [l_laws_markKeySlotS_w_v1_0, s_laws_markKeySlotS_w_v1_0, dec_nlt, cond_false]) (s := (k, l)) ⟨by simp, rfl, fun j hj => by omega, fun _ _ => rfl⟩ (f := N) (by omega)
  refine h1.trans ?_
  rw [h2]
  congr 1
  refine ext_nth fun j => ?_
  rcases Nat.lt_or_ge j m with hj | hj
  · rw [h4 j hj, nth_append, rowsKeySlot_length, if_pos hj, nth_rowsKeySlot k hj]
  · rw [h5 j hj, nth_append, rowsKeySlot_length, if_neg (by omega), nth_drop]
    congr 1; omega

def szKS (x : KeySlot) (n : Int) : Int := cond (decide (n - (x.fKey.size : Int) < 0)) (-1) (cond (decide (n - (x.fKey.size : Int) - (x.fTag.size : Int) < 0)) (-1) (n - (x.fKey.size : Int) - (x.fTag.size : Int)))

theorem laws_szKeySlot_eq (x : KeySlot) {n : Int} (h0 : 0 ≤ n) (h1 : n ≤ 2 ^ 40) (h2 : x.fKey.size ≤ 9223372036854775807) (h3 : x.fTag.size ≤ 9223372036854775807) (k : Int → Option R) : g_laws_szKeySlot N x.fSalt x.fKey x.fTag n k = k (szKS x n) := by
  unfold g_laws_szKeySlot szKS
  rw [w64 (n := n - (x.fKey.size : Int)) (by omega) (by omega)]
  by_cases h : n - (x.fKey.size : Int) < 0
  · rw [decide_eq_true h]; rfl
  · rw [decide_eq_false h, w64 (n := n - (x.fKey.size : Int) - (x.fTag.size : Int)) (by omega) (by omega)]
    cases decide (n - (x.fKey.size : Int) - (x.fTag.size : Int) < 0) <;> rfl

theorem szKS_le {x : KeySlot} {n : Int} (h : 0 ≤ szKS x n) : szKS x n ≤ n ∧ (x.fKey.size : Int) ≤ n ∧ (x.fTag.size : Int) ≤ n := by
  unfold szKS at h ⊢
  by_cases h1 : n - (x.fKey.size : Int) < 0
  · rw [decide_eq_true h1] at h; simp at h
  · rw [decide_eq_false h1] at h ⊢
    by_cases h2 : n - (x.fKey.size : Int) - (x.fTag.size : Int) < 0
    · rw [decide_eq_true h2] at h; simp at h
    · rw [decide_eq_false h2]
      simp only [cond_false]
      omega

theorem laws_szKeySlotS_eq {l : List KeySlot} {b : Bool} {n : Int} (h0 : 0 ≤ n) (h1 : n ≤ 2 ^ 30) (hl : l.length ≤ maxLen) (hx : ∀ x ∈ l, x.fKey.size ≤ 9223372036854775807 ∧ x.fTag.size ≤ 9223372036854775807) (hN : 2 ^ 40 < N) :
    ∃ v, (∀ k : Int → Option R, g_laws_szKeySlotS_r N b n l k = k v) ∧ (v < 0 ∨ (0 ≤ v ∧ v ≤ n ∧ (l.length : Int) ≤ n ∧ ∀ x ∈ l, (x.fKey.size : Int) ≤ n ∧ (x.fTag.size : Int) ≤ n)) := by
  have hl : l.length ≤ 9223372036854775807 := hl
  by_cases hc : n - (l.length : Int) < 0
  · refine ⟨-1, fun k => ?_, Or.inl (by omega)⟩
    unfold g_laws_szKeySlotS_r
    rw [w64 (by omega) (by omega), decide_eq_true hc]; rfl
  · have key := fun (k : Int → Option R) => foldS (fun f i s => l_laws_szKeySlotS_r_0 N b l (fun n4 => k (-1)) (fun n5 => k n5) f s i) l.length (fun i s => atD l i (fun x => decide (szKS x s < 0)) true) (fun i s => atD l i (fun x => szKS x s) s)
      (fun i s => 0 ≤ s ∧ s ≤ n ∧ ∀ j x, j < i → nth l j = some x → (x.fKey.size : Int) ≤ n ∧ (x.fTag.size : Int) ≤ n) k (k (-1)) (fun f i s hi hs => by
        obtain ⟨x, hx1⟩ := nth_some hi
        have hm : x ∈ l := by rw [nth_eq] at hx1; exact List.mem_of_getElem? hx1
        obtain ⟨q1, q2⟩ := hx x hm
        simp only [l_laws_szKeySlotS_r_0, s_laws_szKeySlotS_r_0, dec_lt hi, dec_nn, Int.toNat_natCast, elemK_some hx1, wrap_next hi (by omega), Bool.and_true, cond_true, atD_some hx1, laws_szKeySlot_eq N x hs.1 (by omega) q1 q2]
        refine ⟨trivial, fun hb => ?_⟩
        have hb : 0 ≤ szKS x s := by simpa using hb
        have := szKS_le hb
        refine ⟨hb, by omega, fun j y hj hy => ?_⟩
        by_cases hji : j = i
        · subst hji
          rw [hx1] at hy
          cases hy
          omega
        · exact hs.2.2 j y (by omega) hy) (fun f s hs => by
        simp only [l_laws_szKeySlotS_r_0, s_laws_szKeySlotS_r_0, dec_nlt, cond_false]) (s := n - (l.length : Int)) ⟨by omega, by omega, fun j x hj => absurd hj (by omega)⟩ (f := N) (by omega)
    have hrun : ∀ k : Int → Option R, g_laws_szKeySlotS_r N b n l k = l_laws_szKeySlotS_r_0 N b l (fun n4 => k (-1)) (fun n5 => k n5) N (n - (l.length : Int)) 0 := fun k => by
      unfold g_laws_szKeySlotS_r c_laws_szKeySlotS_r_0
      rw [w64 (by omega) (by omega), decide_eq_false hc]; rfl
    cases hr : runE (fun i s => atD l i (fun x => decide (szKS x s < 0)) true) (fun i s => atD l i (fun x => szKS x s) s) l.length 0 (n - (l.length : Int)) with
    | none =>
      refine ⟨-1, fun k => ?_, Or.inl (by omega)⟩
      rw [hrun k]
      have := (key k).1
      rw [hr] at this
      exact this
    | some v =>
      have h2 := (key (fun _ => none)).2 v hr
      refine ⟨v, fun k => ?_, Or.inr ⟨h2.1, h2.2.1, by omega, fun x hm => ?_⟩⟩
      · rw [hrun k]
        have := (key k).1
        rw [hr] at this
        exact this
      · obtain ⟨j, hj⟩ := List.getElem?_of_mem hm
        have hlt : j < l.length := by
          rcases Nat.lt_or_ge j l.length with h | h
          · exact h
          · rw [List.getElem?_eq_none h] at hj; cases hj
        exact h2.2.2 j x hlt (by rw [nth_eq]; exact hj)

theorem laws_szVolume_eq {s : ByteArray} {l : List KeySlot} {b : Bool} (hs : s.size ≤ 9223372036854775807) (hl : l.length ≤ maxLen) (hx : ∀ x ∈ l, x.fKey.size ≤ 9223372036854775807 ∧ x.fTag.size ≤ 9223372036854775807) (hN : 2 ^ 40 < N) :
    ∃ v, (∀ k : Int → Option R, g_laws_szVolume_r N b s 1048576 l k = k v) ∧ (v < 0 ∨ (0 ≤ v ∧ (l.length : Int) ≤ 1048576 ∧ (s.size : Int) ≤ 1048576 ∧ ∀ x ∈ l, (x.fKey.size : Int) ≤ 1048576 ∧ (x.fTag.size : Int) ≤ 1048576)) := by
  obtain ⟨v, h1, h2⟩ := laws_szKeySlotS_eq (R := R) N (b := b) (n := 1048576) (by omega) (by omega) hl hx hN
  rcases h2 with h2 | ⟨h2, h3, h4, h5⟩
  · exact ⟨-1, fun k => by unfold g_laws_szVolume_r; rw [h1, decide_eq_true h2]; rfl, .inl (by omega)⟩
  · by_cases h6 : v - (s.size : Int) < 0
    · exact ⟨-1, fun k => by unfold g_laws_szVolume_r; rw [h1, decide_eq_false (by omega), cond_false, w64 (by omega) (by omega), decide_eq_true h6]; rfl, .inl (by omega)⟩
    · exact ⟨v - (s.size : Int), fun k => by unfold g_laws_szVolume_r; rw [h1, decide_eq_false (by omega), cond_false, w64 (by omega) (by omega), decide_eq_false h6]; rfl, .inr ⟨by omega, h4, by omega, h5⟩⟩

theorem eqVolumeRes_ww_self {n : Int} {s : ByteArray} {l : List KeySlot} {b b1 : Bool} (hl : l.length ≤ 2 ^ 40) (hN : 2 ^ 40 < N) (k : Bool → Option R) : g_laws_eqVolumeRes_ww N n b s n b1 s l l k = k true := by
  unfold g_laws_eqVolumeRes_ww g_laws_eqVolume_ww
  rw [bne_self_eq_false, cond_false, laws_eqKeySlotS_ww_eq N hl hN]
  simp only [decide_true, Bool.not_true, cond_false]

theorem eqVolumeRes_rw_self {n : Int} {s : ByteArray} {l : List KeySlot} {b b1 : Bool} (hl : l.length ≤ 2 ^ 40) (hN : 2 ^ 40 < N) (k : Bool → Option R) : g_laws_eqVolumeRes_rw N n b s n b1 s l l k = k true := by
  unfold g_laws_eqVolumeRes_rw g_laws_eqVolume_rw
  rw [bne_self_eq_false, cond_false, laws_eqKeySlotS_rw_eq N hl hN]
  simp only [decide_true, Bool.not_true, cond_false]

theorem eqVolumeRes_rr_self {n : Int} {s : ByteArray} {l : List KeySlot} {b b1 : Bool} (hl : l.length ≤ 2 ^ 40) (hN : 2 ^ 40 < N) (k : Bool → Option R) : g_laws_eqVolumeRes_rr N n b s n b1 s l l k = k true := by
  unfold g_laws_eqVolumeRes_rr g_laws_eqVolume_rr
  rw [bne_self_eq_false, cond_false, laws_eqKeySlotS_rr_eq N hl hN]
  simp only [decide_true, Bool.not_true, cond_false]

theorem eqVolume_rr_self {s : ByteArray} {l : List KeySlot} {b b1 : Bool} (hl : l.length ≤ 2 ^ 40) (hN : 2 ^ 40 < N) (k : Bool → Option R) : g_laws_eqVolume_rr N b s b1 s l l k = k true := by
  unfold g_laws_eqVolume_rr
  rw [laws_eqKeySlotS_rr_eq N hl hN]
  simp only [decide_true, Bool.not_true, cond_false]

theorem held_r {n : Nat} {c : Int} {b : Bool} {s : ByteArray} (hn : n ≤ 2 ^ 40) (hN : 2 ^ 40 < N) (k : Int → Option R) : g_laws_heldVolumeRes_r N c b s 1 (rowsKeySlot 1 n) k = k (1 + 3 * (n : Int)) := by
  unfold g_laws_heldVolumeRes_r g_laws_heldVolume_r
  rw [laws_heldKeySlotS_r_eq N hn (by omega) (by omega) hN]
  have : decide (1 + 3 * (n : Int) < 0) = false := decide_eq_false (by omega)
  simp only [this, cond_false]

theorem held_w {n : Nat} {c : Int} {b : Bool} {s : ByteArray} (hn : n ≤ 2 ^ 40) (hN : 2 ^ 40 < N) (k : Int → Option R) : g_laws_heldVolumeRes_w N c b s 1 (rowsKeySlot 1 n) k = k (1 + 3 * (n : Int)) := by
  unfold g_laws_heldVolumeRes_w g_laws_heldVolume_w
  rw [laws_heldKeySlotS_w_eq N hn (by omega) (by omega) hN]
  have : decide (1 + 3 * (n : Int) < 0) = false := decide_eq_false (by omega)
  simp only [this, cond_false]

theorem seg_pre {T : Type} (l m : List T) (n : Nat) (h : n = l.length) : seg (l ++ m) 0 n = l := by
  subst h
  simp [seg]

theorem law_DropPass {s : ByteArray} {n : Int} {l : List KeySlot} {b : Bool} (hs : s.size ≤ maxLen) (hl : l.length ≤ maxLen) (hr : ∀ x ∈ l, ∀ v ∈ rlKeySlot.cells x, svWf v) (hN : 2 ^ 40 < N) (k : Bool → Option R) : g_laws_FnExactDropPass_r N b s n l k = k true := by
  have hx0 : ∀ x ∈ l, x.fKey.size ≤ 9223372036854775807 ∧ x.fTag.size ≤ 9223372036854775807 := fun x hx =>
    ⟨hr x hx (.str x.fKey) (by simp [rlKeySlot, tlKeySlot]), hr x hx (.str x.fTag) (by simp [rlKeySlot, tlKeySlot])⟩
  unfold g_laws_FnExactDropPass_r
  obtain ⟨v, hv, hv2⟩ := laws_szVolume_eq (R := R) N (b := b) hs hl hx0 hN
  rw [hv]
  rcases hv2 with hv2 | ⟨hv0, hl1, hs1, _⟩
  · rw [decide_eq_true hv2]; rfl
  rw [decide_eq_false (by omega), cond_false]
  have hl' : l.length ≤ 2 ^ 40 := by omega
  have hto : ∀ (b : Bool) (K : List KeySlot → Option R), g_laws_toVolume_r N b s l K = K l := fun b K => by
    unfold g_laws_toVolume_r; rw [laws_toKeySlotS_r_eq N hl' hN]
  have hmk : ∀ K : Int → List KeySlot → Option R, g_laws_markVolume_w N false s 1 l K = K (1 + 3 * (l.length : Int)) (rowsKeySlot 1 l.length) := fun K => by
    unfold g_laws_markVolume_w; rw [laws_markKeySlotS_w_eq N hl' (by omega) (by omega) hN]
  have hd1 : decide (1 + 3 * (l.length : Int) < 0) = false := decide_eq_false (by omega)
  rw [hto, spec_DropPass_eq N hN]
  by_cases hz : dropCode s n l = 0
  · obtain ⟨hvb, h0, h1, h2, h3⟩ := dropCode_zero hz
    have hlen : (dropL n.toNat l).length = l.length - 1 := by
      unfold dropL
      rw [List.length_append, List.length_take, List.length_drop]; omega
    have hlen2 : (dropL n.toNat l ++ [slot0]).length = l.length := by
      rw [List.length_append, hlen, List.length_singleton]; omega
    have hdl : (dropL n.toNat l).length ≤ 2 ^ 40 := by omega
    have hsg : seg (dropL n.toNat l ++ [slot0]) 0 (l.length - 1) = dropL n.toNat l := seg_pre _ _ _ hlen.symm
    have hmv : ∀ K : Int → List KeySlot → Option R, g_laws_markVolumeRes_w_v1 N 0 0 (l.length - 1) 1 false s 1 (dropL n.toNat l ++ [slot0]) K = K (1 + 3 * ((l.length - 1 : Nat) : Int)) (rowsKeySlot 1 (l.length - 1) ++ (dropL n.toNat l ++ [slot0]).drop (l.length - 1)) := fun K => by
      unfold g_laws_markVolumeRes_w_v1 g_laws_markVolume_w_v1
      rw [laws_markKeySlotS_w_v1_eq N (by omega) (by omega) (by omega) (by omega) hN]
    have hsg2 : seg (rowsKeySlot 1 (l.length - 1) ++ (dropL n.toNat l ++ [slot0]).drop (l.length - 1)) 0 (l.length - 1) = rowsKeySlot 1 (l.length - 1) := seg_pre _ _ _ (rowsKeySlot_length _ _).symm
    have hlen3 : (rowsKeySlot 1 (l.length - 1) ++ (dropL n.toNat l ++ [slot0]).drop (l.length - 1)).length = l.length := by
      rw [List.length_append, rowsKeySlot_length, List.length_drop, hlen2]; omega
    have hd2 : decide (1 + 3 * ((l.length - 1 : Nat) : Int) < 0) = false := decide_eq_false (by omega)
    simp only [hz, bne_self_eq_false, cond_false, hto, impl_DropPass_eq N rfl hN, hlen2, Nat.zero_add, ble_t (show l.length - 1 ≤ l.length by omega), cond_true, hsg, eqVolumeRes_rw_self N hdl hN, Bool.not_true, eqVolume_rr_self N hl' hN, hmk, hd1, eqVolumeRes_rr_self N hdl hN, oK_some_eq, hmv, hlen3, hsg2, held_r N (show l.length - 1 ≤ 2 ^ 40 by omega) hN, hd2]
  · have hb : (dropCode s n l != 0) = true := by simpa using hz
    have hmv : ∀ K : Int → List KeySlot → Option R, g_laws_markVolumeRes_w N (dropCode s n l) true ⟨[].toArray⟩ 1 [] K = K (1 + 3 * ((0 : Nat) : Int)) (rowsKeySlot 1 0) := fun K => by
      unfold g_laws_markVolumeRes_w g_laws_markVolume_w
      rw [laws_markKeySlotS_w_eq N (by simp) (by omega) (by omega) hN]; rfl
    have hd2 : decide (1 + 3 * ((0 : Nat) : Int) < 0) = false := by decide
    simp only [hb, cond_true, hto, impl_DropPass_eq N rfl hN, eqVolumeRes_ww_self N (show ([] : List KeySlot).length ≤ 2 ^ 40 by simp) hN, Bool.not_true, cond_false, eqVolume_rr_self N hl' hN, hmk, hd1, eqVolumeRes_rr_self N (show ([] : List KeySlot).length ≤ 2 ^ 40 by simp) hN, oK_some_eq, hmv, held_w N (show 0 ≤ 2 ^ 40 by simp) hN, hd2, bne_self_eq_false]

end
end Go.Sa
