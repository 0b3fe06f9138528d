import Derived.Test.YtmmgjioemnhoaaaW1
set_option linter.all false
namespace Go.Sa
open Go Go.Eng
section
variable {R : Type} (N : Nat)
variable {R : Type}

@[simp] theorem laws_toKeySlot_eq (a0 : Int) (a1 : ByteArray) (a2 : ByteArray) (k : Option R) : g_laws_toKeySlot N a0 a1 a2 k = k := rfl

theorem laws_toKeySlotS_r_eq {l : List KeySlot} {b : Bool} (hl : l.length ≤ 2 ^ 40) (hN : 2 ^ 40 < N) (k : List KeySlot → Option R) : g_laws_toKeySlotS_r N b l k = k l := by
  unfold g_laws_toKeySlotS_r
  rw [Int.toNat_natCast, room (by omega) (by omega), dec_self]
  unfold c_laws_toKeySlotS_r_0
  refine (copyl (l_laws_toKeySlotS_r_0 N b false l (fun l4 => k l4)) l (fun x => x) k (fun f i ys x hi hy hx => ?_) (fun f ys hy => ?_) (by simp) (by omega)).trans (by rw [List.map_id'])
  · obtain ⟨y, hy1⟩ := nth_some (l := ys) (n := i) (by omega)
    simp only [l_laws_toKeySlotS_r_0, s_laws_toKeySlotS_r_0, laws_toKeySlot_eq, dec_lt hi, dec_nn, Int.toNat_natCast, elemK_some hx, elemK_some hy1, dec_lt (show i < ys.length by omega), blt_t (show i < ys.length by omega), wrap_next hi (by omega), Bool.and_true, cond_true]
  · simp only [l_laws_toKeySlotS_r_0, s_laws_toKeySlotS_r_0, dec_nlt, cond_false]

theorem laws_eqKeySlot_eq (x y : KeySlot) (k : Bool → Option R) : g_laws_eqKeySlot N x.fSalt x.fKey x.fTag y.fSalt y.fKey y.fTag k = k (decide (x = y)) := by
  unfold g_laws_eqKeySlot
  by_cases h0 : x.fSalt = y.fSalt
  case neg =>
    rw [decide_eq_false (show ¬ x = y from fun e => h0 (by rw [e]))]
    simp only [bne_dec, beq_dec, h0, decide_false, Bool.not_false, cond_true]
  simp only [bne_dec, beq_dec, h0, decide_true, Bool.not_true, cond_false]
  by_cases h1 : x.fKey = y.fKey
  case neg =>
    rw [decide_eq_false (show ¬ x = y from fun e => h1 (by rw [e]))]
    simp only [bne_dec, beq_dec, h1, decide_false, Bool.not_false, cond_true]
  simp only [bne_dec, beq_dec, h1, decide_true, Bool.not_true, cond_false]
  by_cases h2 : x.fTag = y.fTag
  case neg =>
    rw [decide_eq_false (show ¬ x = y from fun e => h2 (by rw [e]))]
    simp only [bne_dec, beq_dec, h2, decide_false, Bool.not_false, cond_true]
  simp only [bne_dec, beq_dec, h2, decide_true, Bool.not_true, cond_false]
  rw [decide_eq_true (show x = y by cases x; cases y; simp_all)]

theorem laws_eqKeySlotS_ww_eq {l m : List KeySlot} {b b1 : Bool} (hl : l.length ≤ 2 ^ 40) (hN : 2 ^ 40 < N) (k : Bool → Option R) : g_laws_eqKeySlotS_ww N b b1 l m k = k (decide (l = m)) := by
  unfold g_laws_eqKeySlotS_ww
  by_cases h : l.length = m.length
  · rw [show ((l.length : Int) != (m.length : Int)) = false by simp [h]]
    unfold c_laws_eqKeySlotS_ww_0
    refine (eql (l_laws_eqKeySlotS_ww_0 N b b1 l m (k false) (k true)) l m h (k false) (k true) (fun f i x y hi hx hy => ?_) (fun f => ?_) (by omega)).trans ?_
    · simp only [l_laws_eqKeySlotS_ww_0, s_laws_eqKeySlotS_ww_0, dec_lt hi, dec_nn, Int.toNat_natCast, elemK_some hx, elemK_some hy, dec_lt (show i < m.length by omega), laws_eqKeySlot_eq, wrap_next hi (by omega), Bool.and_true, cond_true]
    · simp only [l_laws_eqKeySlotS_ww_0, s_laws_eqKeySlotS_ww_0, dec_nlt, cond_false]
    · cases decide (l = m) <;> rfl
  · rw [show ((l.length : Int) != (m.length : Int)) = true by simp; omega]
    rw [decide_eq_false (fun e => h (by rw [e]))]
    rfl

theorem laws_eqKeySlotS_rr_eq {l m : List KeySlot} {b b1 : Bool} (hl : l.length ≤ 2 ^ 40) (hN : 2 ^ 40 < N) (k : Bool → Option R) : g_laws_eqKeySlotS_rr N b b1 l m k = k (decide (l = m)) := by
  unfold g_laws_eqKeySlotS_rr
  by_cases h : l.length = m.length
  · rw [show ((l.length : Int) != (m.length : Int)) = false by simp [h]]
    unfold c_laws_eqKeySlotS_rr_0
    refine (eql (l_laws_eqKeySlotS_rr_0 N b b1 l m (k false) (k true)) l m h (k false) (k true) (fun f i x y hi hx hy => ?_) (fun f => ?_) (by omega)).trans ?_
    · simp only [l_laws_eqKeySlotS_rr_0, s_laws_eqKeySlotS_rr_0, dec_lt hi, dec_nn, Int.toNat_natCast, elemK_some hx, elemK_some hy, dec_lt (show i < m.length by omega), laws_eqKeySlot_eq, wrap_next hi (by omega), Bool.and_true, cond_true]
    · simp only [l_laws_eqKeySlotS_rr_0, s_laws_eqKeySlotS_rr_0, dec_nlt, cond_false]
    · cases decide (l = m) <;> rfl
  · rw [show ((l.length : Int) != (m.length : Int)) = true by simp; omega]
    rw [decide_eq_false (fun e => h (by rw [e]))]
    rfl

@[simp] theorem impl_yin_eq (a lo hi : Int) (k : Bool → Option R) : g_impl_yin N a lo hi k = k (decide (a ≥ lo) && decide (a ≤ hi)) := by
  simp [g_impl_yin]

@[simp] theorem impl_yisWord_eq (a : Int) (k : Bool → Option R) : g_impl_yisWord N a k = k (decide (a ≥ 0) && decide (a < 4294967296)) := by
  simp [g_impl_yisWord]

@[simp] theorem spec_l01IsWord_eq (a : Int) (k : Bool → Option R) : g_spec_l01IsWord N a k = k (decide (a ≥ 0) && decide (a < 4294967296)) := by
  simp [g_spec_l01IsWord]

def word (n : Int) : Int := n % 4294967296

def putWord (n : Int) : ByteArray := toBytes [word n % 256, word n / 256 % 256, word n / 65536 % 256, word n / 16777216 % 256]

theorem putWord_size (n : Int) : (putWord n).size = 4 := toBytes_size _

theorem impl_PutWord_eq (n : Int) (k : ByteArray → Option R) : g_impl_PutWord N n k = k (putWord n) := by
  simp only [g_impl_PutWord, wu8, wu32, fdiv_lit _ (show (0 : Int) ≤ 256 by omega), fdiv_lit _ (show (0 : Int) ≤ 65536 by omega), fdiv_lit _ (show (0 : Int) ≤ 16777216 by omega), seg_all]
  rfl

theorem spec_l01Mod_eq {n m : Int} (hm : 0 < m) (hm2 : m ≤ 2 ^ 62) (k : Int → Option R) : g_spec_l01Mod N n m k = k (n % m) := by
  unfold g_spec_l01Mod
  obtain ⟨h1, h2⟩ := tmod_bound (n := n) hm
  rw [show (m == 0) = false by rw [beq_dec]; exact decide_eq_false (by omega), ← tmod_add (n := n) hm]
  by_cases h : n.tmod m < 0
  · rw [decide_eq_true h, if_pos h, w64 (by omega) (by omega)]; rfl
  · rw [decide_eq_false h, if_neg h]; rfl

theorem impl_ymod_eq {n m : Int} (hm : 0 < m) (hm2 : m ≤ 2 ^ 62) (k : Int → Option R) : g_impl_ymod N n m k = k (n % m) := by
  unfold g_impl_ymod
  obtain ⟨h1, h2⟩ := tmod_bound (n := n) hm
  rw [show (m == 0) = false by rw [beq_dec]; exact decide_eq_false (by omega), ← tmod_add (n := n) hm]
  by_cases h : n.tmod m < 0
  · rw [decide_eq_true h, if_pos h, w64 (by omega) (by omega)]; rfl
  · rw [decide_eq_false h, if_neg h]; rfl

theorem spec_Word_eq (n : Int) (k : Int → Option R) : g_spec_Word N n k = k (word n) := by
  unfold g_spec_Word
  rw [spec_l01Mod_eq N (by omega) (by omega)]
  rfl

theorem spec_PutWord_eq (n : Int) (k : ByteArray → Option R) : g_spec_PutWord N n k = k (putWord n) := by
  simp only [g_spec_PutWord, spec_Word_eq, wu8, fdiv_lit _ (show (0 : Int) ≤ 256 by omega), fdiv_lit _ (show (0 : Int) ≤ 65536 by omega), fdiv_lit _ (show (0 : Int) ≤ 16777216 by omega), seg_all]
  rfl


/-- Texts, one behind the other. -/
def catB : List ByteArray → ByteArray
  | [] => ⟨[].toArray⟩
  | x :: l => x ++ catB l

theorem ba_append_empty (x : ByteArray) : x ++ (⟨[].toArray⟩ : ByteArray) = x := by
  apply ByteArray.ext
  simp

theorem join_flatten : ∀ xs : List (List UInt8), Lib.join xs [] = xs.flatten
  | [] => rfl
  | x :: r => by
    rw [Lib.join_cons, List.flatten_cons]
    unfold Lib.joinTail
    simp

theorem catB_toList : ∀ l : List ByteArray, (catB l).data.toList = (l.map (·.data.toList)).flatten
  | [] => rfl
  | x :: l => by
    simp only [catB, List.map_cons, List.flatten_cons, ← catB_toList l]
    simp

theorem joinB_cat (l : List ByteArray) : joinB l ⟨[].toArray⟩ = catB l := by
  unfold joinB
  apply ByteArray.ext
  apply Array.ext'
  show Lib.join (l.map (·.data.toList)) [] = _
  rw [join_flatten, catB_toList]

theorem joinOk_cat {l : List ByteArray} (h1 : l.length ≤ 2 ^ 40) (h2 : (catB l).size ≤ 2 ^ 40) : joinOk l ⟨[].toArray⟩ = true := by
  unfold joinOk
  have h3 : (Lib.join (l.map (·.data.toList)) (⟨[].toArray⟩ : ByteArray).data.toList).length = (catB l).size := by
    show (Lib.join (l.map (·.data.toList)) []).length = _
    rw [join_flatten, ← catB_toList]
    rfl
  rw [h3, ble_t (by omega), ble_t (by omega)]
  rfl

theorem catB_size : ∀ l : List ByteArray, (catB l).size = (l.map (·.size)).sum
  | [] => rfl
  | x :: l => by
    simp only [catB, ByteArray.size_append, List.map_cons, List.sum_cons, catB_size l]

theorem tdiv_nn {n m : Int} (h : 0 ≤ n) : n.tdiv m = n / m := Int.tdiv_eq_ediv_of_nonneg h

theorem tmod_nn {n m : Int} (h : 0 ≤ n) : n.tmod m = n % m := Int.tmod_eq_emod_of_nonneg h

theorem markText_loop (k : ByteArray → Option R) : ∀ (f f' : Nat) (n : Int) (s : ByteArray), 0 ≤ n → n < 10 ^ f → n < 2 ^ 60 → f < f' → s.size + f ≤ 1000 → l_laws_markText_0 N k f' n s = k (mtGo f n s) := by
  intro f
  induction f with
  | zero =>
    intro f' n s h0 h1 _ hf hs
    obtain ⟨f', rfl⟩ : ∃ j, f' = j + 1 := ⟨f' - 1, by omega⟩
    have : n = 0 := by simp at h1; omega
    subst this
    rfl
  | succ f ih =>
    intro f' n s h0 h1 h2 hf hs
    obtain ⟨f', rfl⟩ : ∃ j, f' = j + 1 := ⟨f' - 1, by omega⟩
    unfold mtGo
    by_cases hn : 0 < n
    · have hd : n.tdiv 10 = n / 10 := Int.tdiv_eq_ediv_of_nonneg h0
      have hsz : (toBytes [IntKind.wrap .u8 (IntKind.wrap .i64 (48 + Int.tmod n 10))]).size = 1 := toBytes_size _
      rw [Int.pow_succ] at h1
      simp only [l_laws_markText_0, s_laws_markText_0, decide_eq_true (show n > 0 from hn), seg_all, hsz, ble_t (show 1 + s.size ≤ 9223372036854775807 by omega), cond_true, hd, w64 (show -9223372036854775808 ≤ n / 10 by omega) (show n / 10 < 9223372036854775808 by omega)]
      rw [if_pos hn]
      refine ih f' (n / 10) _ (by omega) (by omega) (by omega) (by omega) ?_
      rw [ByteArray.size_append, hsz]; omega
    · have : n = 0 := by omega
      subst this
      rw [if_neg hn]
      rfl

theorem markText_eq {n : Int} (h1 : 1 ≤ n) (h2 : n < 2 ^ 60) (hN : 2 ^ 40 < N) (k : ByteArray → Option R) : g_laws_markText N n k = k (mt n) := by
  unfold g_laws_markText c_laws_markText_0
  rw [decide_eq_false (by omega), cond_false, markText_loop N _ 20 N n _ (by omega) (Int.lt_trans h2 (by decide)) h2 (by omega) (by decide)]
  have := mtGo_size 20 n ⟨[].toArray⟩
  have h0 : (⟨[].toArray⟩ : ByteArray).size = 0 := rfl
  rw [ble_t (show 1 + (mtGo 20 n ⟨[].toArray⟩).size ≤ 9223372036854775807 by omega)]
  rfl

def rowKeySlot (k : Int) : KeySlot := ⟨k, mt (k + 1), mt (k + 2)⟩

def rowsKeySlot (k : Int) (n : Nat) : List KeySlot := (List.range n).map fun (i : Nat) => rowKeySlot (k + 3 * (i : Int))

theorem nth_rowsKeySlot (k : Int) {n i : Nat} (h : i < n) : nth (rowsKeySlot k n) i = some (rowKeySlot (k + 3 * (i : Int))) := by
  unfold rowsKeySlot
  rw [nth_map, nth_eq, List.getElem?_range h]
  rfl

theorem rowsKeySlot_length (k : Int) (n : Nat) : (rowsKeySlot k n).length = n := by simp [rowsKeySlot]

theorem laws_markKeySlotS_w_eq {l : List KeySlot} {b : Bool} {k : Int} (hl : l.length ≤ 2 ^ 40) (hk : 1 ≤ k) (hk2 : k ≤ 2 ^ 50) (hN : 2 ^ 40 < N) (K : Int → List KeySlot → Option R) : g_laws_markKeySlotS_w N b k l K = K (k + 3 * (l.length : Int)) (rowsKeySlot k l.length) := by
  unfold g_laws_markKeySlotS_w c_laws_markKeySlotS_w_0
  obtain ⟨h1, h2, h3, h4⟩ := fold (fun f i (s : Int × List KeySlot) => l_laws_markKeySlotS_w_0 N b (fun n l => K n l) f s.1 i s.2) l.length (fun i s => (s.1 + 3, nset s.2 i (rowKeySlot s.1))) (fun i s => s.1 = k + 3 * (i : Int) ∧ s.2.length = l.length ∧ ∀ j : Nat, j < i → nth s.2 j = some (rowKeySlot (k + 3 * (j : Int)))) (fun s => K s.1 s.2)
    (fun f i s0 hi hs => by
      obtain ⟨s, ys⟩ := s0
      obtain ⟨hs1, hs2, hs3⟩ := hs
      dsimp only at hs1 hs2 hs3
      obtain ⟨x, hx⟩ := nth_some (l := ys) (n := i) (by omega)
      have e1 : IntKind.wrap .i64 (s + 1) = s + 1 := by rw [w64 (by omega) (by omega)]
      have e2 : IntKind.wrap .i64 (s + 1 + 1) = s + 2 := by rw [w64 (by omega) (by omega)]; omega
      have e3 : IntKind.wrap .i64 (s + 2 + 1) = s + 3 := by rw [w64 (by omega) (by omega)]; omega
      have m1 : ∀ K : ByteArray → Option R, g_laws_markText N (s + 1) K = K (mt (s + 1)) := fun K => markText_eq N (by omega) (by omega) hN K
      have m2 : ∀ K : ByteArray → Option R, g_laws_markText N (s + 2) K = K (mt (s + 2)) := fun K => markText_eq N (by omega) (by omega) hN K
      refine ⟨?_, by dsimp only; omega, by simpa using hs2, fun j hj => ?_⟩
      · simp only [l_laws_markKeySlotS_w_0, s_laws_markKeySlotS_w_0, dec_lt hi, dec_lt (show i < ys.length by omega), dec_nn, Int.toNat_natCast, hs2, nset_length, elemK_some hx, elemK_nset (show i < ys.length by omega), nset_nset, blt_t hi, blt_t (show i < ys.length by omega), wrap_next hi (by omega), Bool.and_true, cond_true, e1, e2, e3, m1, m2]
        rfl
      · dsimp only
        rw [nth_nset]
        split
        · rename_i hc; obtain ⟨rfl, _⟩ := hc; rw [hs1]
        · rename_i hc; exact hs3 j (by have : j ≠ i := fun e => hc ⟨e, by omega⟩; omega))
    (fun f s0 hs => by
      obtain ⟨s, ys⟩ := s0
      obtain ⟨hs1, hs2, hs3⟩ := hs
      dsimp only at hs2
      simp only [l_laws_markKeySlotS_w_0, s_laws_markKeySlotS_w_0, hs2, dec_nlt, cond_false]) (s := (k, l)) ⟨by simp, rfl, fun j hj => by omega⟩ (f := N) (by omega)
  refine h1.trans ?_
  rw [h2]
  congr 1
  refine ext_nth fun j => ?_
  rcases Nat.lt_or_ge j l.length with hj | hj
  · rw [h4 j hj, nth_rowsKeySlot k hj]
  · rw [nth_none (by rw [h3]; exact hj), nth_none (by rw [rowsKeySlot_length]; exact hj)]

theorem laws_heldKeySlotS_w_eq {n : Nat} {b : Bool} {k : Int} (hl : n ≤ 2 ^ 40) (hk : 1 ≤ k) (hk2 : k ≤ 2 ^ 50) (hN : 2 ^ 40 < N) (K : Int → Option R) : g_laws_heldKeySlotS_w N b k (rowsKeySlot k n) K = K (k + 3 * (n : Int)) := by
  unfold g_laws_heldKeySlotS_w c_laws_heldKeySlotS_w_0
  obtain ⟨h1, h2⟩ := fold (fun f i (s : Int) => l_laws_heldKeySlotS_w_0 N b (rowsKeySlot k n) (fun _ => K (-1)) (fun n => K n) f s i) n (fun _ s => s + 3) (fun i s => s = k + 3 * (i : Int)) (fun s => K s)
    (fun f i s hi hs => by
      have hr : rowKeySlot (k + 3 * (i : Int)) = rowKeySlot s := by rw [hs]
      have hx : nth (rowsKeySlot k n) i = some (rowKeySlot s) := by rw [nth_rowsKeySlot k hi, hr]
      have e1 : IntKind.wrap .i64 (s + 1) = s + 1 := by rw [w64 (by omega) (by omega)]
      have e2 : IntKind.wrap .i64 (s + 1 + 1) = s + 2 := by rw [w64 (by omega) (by omega)]; omega
      have e3 : IntKind.wrap .i64 (s + 2 + 1) = s + 3 := by rw [w64 (by omega) (by omega)]; omega
      have m1 : ∀ K : ByteArray → Option R, g_laws_markText N (s + 1) K = K (mt (s + 1)) := fun K => markText_eq N (by omega) (by omega) hN K
      have m2 : ∀ K : ByteArray → Option R, g_laws_markText N (s + 2) K = K (mt (s + 2)) := fun K => markText_eq N (by omega) (by omega) hN K
      refine ⟨?_, by omega⟩
      simp only [l_laws_heldKeySlotS_w_0, s_laws_heldKeySlotS_w_0, rowsKeySlot_length, dec_lt hi, dec_nn, Int.toNat_natCast, elemK_some hx, rowKeySlot, bne_self_eq_false, beq_self_eq_true, decide_true, Bool.not_true, cond_false, wrap_next hi (by omega), Bool.and_true, cond_true, e1, e2, e3, m1, m2])
    (fun f s hs => by
      simp only [l_laws_heldKeySlotS_w_0, s_laws_heldKeySlotS_w_0, rowsKeySlot_length, dec_nlt, cond_false]) (s := k) (by simp) (f := N) (by omega)
  refine h1.trans ?_
  rw [h2]

def runE {S : Type} (bad : Nat → S → Bool) (g : Nat → S → S) : Nat → Nat → S → Option S
  | 0, _, s => some s
  | d + 1, i, s => cond (bad i s) none (runE bad g d (i + 1) (g i s))

/-- A fold that may be left, by a test on its state. -/
theorem foldS {S : Type} (l : Nat → Int → S → Option R) (n : Nat) (bad : Nat → S → Bool) (g : Nat → S → S) (I : Nat → S → Prop) (k : S → Option R) (k0 : Option R)
    (h : ∀ f i s, i < n → I i s → l (f + 1) (i : Int) s = cond (bad i s) k0 (l f ((i + 1 : Nat) : Int) (g i s)) ∧ (bad i s = false → I (i + 1) (g i s)))
    (he : ∀ f s, I n s → l (f + 1) (n : Int) s = k s) {s : S} (hs : I 0 s) {f : Nat} (hf : n < f) :
    (l f 0 s = match runE bad g n 0 s with | some s' => k s' | none => k0) ∧ ∀ s', runE bad g n 0 s = some s' → I n s' := by
  have key : ∀ d i f s, i + d = n → d < f → I i s → (l f (i : Int) s = match runE bad g d i s with | some s' => k s' | none => k0) ∧ ∀ s', runE bad g d i s = some s' → I n s' := by
    intro d
    induction d with
    | zero =>
      intro i f s hi hf hs
      obtain ⟨f, rfl⟩ : ∃ j, f = j + 1 := ⟨f - 1, by omega⟩
      have : i = n := by omega
      subst this
      refine ⟨he f s hs, fun s' e => ?_⟩
      simp only [runE, Option.some.injEq] at e
      subst e
      exact hs
    | succ d ih =>
      intro i f s hi hf hs
      obtain ⟨f, rfl⟩ : ∃ j, f = j + 1 := ⟨f - 1, by omega⟩
      obtain ⟨h1, h2⟩ := h f i s (by omega) hs
      rw [h1]
      simp only [runE]
      cases hb : bad i s with
      | true => exact ⟨rfl, fun s' e => by cases e⟩
      | false => exact ih (i + 1) f _ (by omega) (by omega) (h2 hb)
  exact key n 0 f s (by omega) hf hs

def mixStep (x b : Int) : Int := (x * 65599 + b + 1) % 2147483629

def mixGo (s : ByteArray) (x : Int) : Int := (List.range s.size).foldl (fun x i => mixStep x (bt s i)) x

def mix (s : ByteArray) (n : Int) : Int := (mixGo s (n % 2147483629 + 1) * 40503 + 77) % 2147483629

theorem mix_round {x b : Int} (hx0 : 0 ≤ x) (hx1 : x ≤ 2147483629) (hb0 : 0 ≤ b) (hb1 : b ≤ 255) :
    Int.tmod (IntKind.wrap .i64 (IntKind.wrap .i64 (IntKind.wrap .i64 (x * 65599) + IntKind.wrap .i64 b) + 1)) 2147483629 = mixStep x b := by
  rw [w64 (n := x * 65599) (by omega) (by omega), w64 (n := b) (by omega) (by omega), w64 (n := x * 65599 + b) (by omega) (by omega), w64 (by omega) (by omega), tmod_nn (by omega)]
  rfl

theorem impl_ymix_eq {s : ByteArray} {n : Int} (hs : s.size ≤ 2 ^ 40) (hN : 2 ^ 40 < N) (k : Int → Option R) : g_impl_ymix N s n k = k (mix s n) := by
  unfold g_impl_ymix
  rw [impl_ymod_eq N (by omega) (by omega)]
  have hm : 0 ≤ n % 2147483629 ∧ n % 2147483629 < 2147483629 := by omega
  rw [w64 (n := n % 2147483629 + 1) (by omega) (by omega)]
  unfold c_impl_ymix_0
  obtain ⟨h1, h2, h3⟩ := fold (fun f i x => l_impl_ymix_0 N s s.size (fun n5 => k (Int.tmod (IntKind.wrap .i64 (IntKind.wrap .i64 (n5 * 40503) + 77)) 2147483629)) f x i) s.size (fun i x => mixStep x (bt s i)) (fun _ x => 0 ≤ x ∧ x ≤ 2147483629) (fun n5 => k (Int.tmod (IntKind.wrap .i64 (IntKind.wrap .i64 (n5 * 40503) + 77)) 2147483629)) (fun f i x hi hx => by
      obtain ⟨b1, b2⟩ := bt_bound s i
      simp only [l_impl_ymix_0, s_impl_ymix_0, dec_lt hi, dec_nn, Int.toNat_natCast, wrap_next hi (by omega), Bool.and_true, cond_true, mix_round hx.1 hx.2 b1 b2]
      exact ⟨trivial, by unfold mixStep; omega⟩) (fun f x hx => by
      simp only [l_impl_ymix_0, s_impl_ymix_0, dec_nlt, cond_false]) (s := n % 2147483629 + 1) ⟨by omega, by omega⟩ (f := N) (by omega)
  refine h1.trans ?_
  rw [w64 (n := _ * 40503) (by omega) (by omega), w64 (by omega) (by omega), tmod_nn (by omega)]
  rfl

theorem spec_Mix_eq {s : ByteArray} {n : Int} (hN : 2 ^ 40 < N) (k : Int → Option R) : g_spec_Mix N s n k = k (cond (decide ((s.size : Int) > 65536)) 0 (mix s n)) := by
  unfold g_spec_Mix
  by_cases hs : (s.size : Int) > 65536
  · rw [decide_eq_true hs]; rfl
  rw [decide_eq_false hs, cond_false, cond_false, spec_l01Mod_eq N (by omega) (by omega)]
  have hm : 0 ≤ n % 2147483629 ∧ n % 2147483629 < 2147483629 := by omega
  rw [w64 (n := n % 2147483629 + 1) (by omega) (by omega)]
  unfold c_spec_Mix_0
  obtain ⟨h1, h2, h3⟩ := fold (fun f i x => l_spec_Mix_0 N s (fun n5 => k (Int.tmod (IntKind.wrap .i64 (IntKind.wrap .i64 (n5 * 40503) + 77)) 2147483629)) f x i) s.size (fun i x => mixStep x (bt s i)) (fun _ x => 0 ≤ x ∧ x ≤ 2147483629) (fun n5 => k (Int.tmod (IntKind.wrap .i64 (IntKind.wrap .i64 (n5 * 40503) + 77)) 2147483629)) (fun f i x hi hx => by
      obtain ⟨b1, b2⟩ := bt_bound s i
      simp only [l_spec_Mix_0, s_spec_Mix_0, dec_lt hi, dec_nn, Int.toNat_natCast, wrap_next hi (by omega), Bool.and_true, cond_true, mix_round hx.1 hx.2 b1 b2]
      exact ⟨trivial, by unfold mixStep; omega⟩) (fun f x hx => by
      simp only [l_spec_Mix_0, s_spec_Mix_0, dec_nlt, cond_false]) (s := n % 2147483629 + 1) ⟨by omega, by omega⟩ (f := N) (by omega)
  refine h1.trans ?_
  rw [w64 (n := _ * 40503) (by omega) (by omega), w64 (by omega) (by omega), tmod_nn (by omega)]
  rfl

theorem ofBytes_length (s : ByteArray) : (ofBytes s).length = s.size := by
  unfold ofBytes
  rw [List.length_map, Array.length_toList]
  rfl

def isW (x : Int) : Bool := decide (x ≥ 0) && decide (x < 4294967296)

theorem longKey_eq {s : ByteArray} (hN : 2 ^ 40 < N) (k : Bool → Option R) : g_impl_ylongKey_w N false [s] k = k (decide ((s.size : Int) > 4096)) := by
  unfold g_impl_ylongKey_w g_slices_ContainsFunc_string_Fimpl_ylongKey_1_w g_slices_IndexFunc_string_Fimpl_ylongKey_1_w c_slices_IndexFunc_string_Fimpl_ylongKey_1_w_0
  have := srchI (l_slices_IndexFunc_string_Fimpl_ylongKey_1_w_0 N false ([s].length : Nat) [s] (fun n => k (decide (n ≥ 0))) (k (decide ((-1 : Int) ≥ 0)))) 1 (fun i => atD [s] i (fun x => decide ((x.size : Int) > 4096)) true) (fun n => k (decide (n ≥ 0))) (k (decide ((-1 : Int) ≥ 0))) (fun f i hi => by
    obtain ⟨x, hx⟩ := nth_some (l := [s]) (n := i) hi
    have hi' : i < [s].length := hi
    simp only [l_slices_IndexFunc_string_Fimpl_ylongKey_1_w_0, s_slices_IndexFunc_string_Fimpl_ylongKey_1_w_0, dec_lt hi', dec_nn, Int.toNat_natCast, elemK_some hx, wrap_next hi (by omega), Bool.and_true, cond_true, atD_some hx, g_impl_ylongKey_1]) (fun f => by
    have : decide (((1 : Nat) : Int) < (([s].length : Nat) : Int)) = false := by simp
    simp only [l_slices_IndexFunc_string_Fimpl_ylongKey_1_w_0, s_slices_IndexFunc_string_Fimpl_ylongKey_1_w_0, this, cond_false]) (f := N) (by omega)
  refine this.trans ?_
  have e : (List.range 1).find? (fun i => atD [s] i (fun x => decide ((x.size : Int) > 4096)) true) = cond (decide ((s.size : Int) > 4096)) (some 0) none := by
    have e1 : atD [s] 0 (fun x => decide ((x.size : Int) > 4096)) true = decide ((s.size : Int) > 4096) := rfl
    rw [show List.range 1 = [0] from rfl, List.find?_cons, e1]
    cases decide ((s.size : Int) > 4096) <;> rfl
  rw [e]
  cases decide ((s.size : Int) > 4096) <;> rfl

theorem impl_yjoinw_eq {l : List ByteArray} {b : Bool} (h1 : l.length ≤ 2 ^ 40) (h2 : (catB l).size ≤ 2 ^ 40) (k : ByteArray → Option R) : g_impl_yjoin_w N b l k = k (catB l) := by
  unfold g_impl_yjoin_w
  rw [joinOk_cat h1 h2, cond_true, joinB_cat]

def slotBad (x : KeySlot) : Bool := !isW x.fSalt || ((x.fKey.size : Int) != 16 || (x.fTag.size : Int) != 8)

def volBad (s : ByteArray) (l : List KeySlot) : Bool := !(decide (1 ≤ l.length) && decide (l.length ≤ 4)) || ((s.size : Int) != 8 || l.any slotBad)

theorem spec_VolumeFault_w_eq {s : ByteArray} {l : List KeySlot} {b : Bool} (hN : 2 ^ 40 < N) (k : Int → Option R) : g_spec_VolumeFault_w N b s l k = k (cond (volBad s l) 1 0) := by
  unfold g_spec_VolumeFault_w
  simp only [cond_somes, oK_some_eq, Bool.cond_true_left]
  have h1 : (decide ((l.length : Int) < 1) || (decide ((l.length : Int) > 4) || (s.size : Int) != 8)) = (!(decide (1 ≤ l.length) && decide (l.length ≤ 4)) || (s.size : Int) != 8) := by
    have a1 : decide ((l.length : Int) < 1) = !decide (1 ≤ l.length) := by rw [← decide_not]; exact decide_eq_decide.2 (by omega)
    have a2 : decide ((l.length : Int) > 4) = !decide (l.length ≤ 4) := by rw [Bool.eq_iff_iff]; simp; omega
    rw [a1, a2]
    cases decide (1 ≤ l.length) <;> cases decide (l.length ≤ 4) <;> rfl
  rw [h1]
  unfold volBad
  rw [← Bool.or_assoc]
  cases h : (!(decide (1 ≤ l.length) && decide (l.length ≤ 4)) || (s.size : Int) != 8) with
  | true => rfl
  | false =>
    have hl : l.length ≤ 4 := by
      cases hc : decide (l.length ≤ 4) with
      | true => exact of_decide_eq_true hc
      | false => rw [hc, Bool.and_false] at h; cases h
    rw [cond_false, Bool.false_or]
    unfold c_spec_VolumeFault_w_0
    rw [srch (l_spec_VolumeFault_w_0 N l b s (k 1) (k 0)) l.length (fun i => atD l i slotBad true) (k 1) (k 0) (fun f i hi => ?_) (fun f => ?_) (by omega), any_atD]
    · cases l.any slotBad <;> rfl
    · obtain ⟨x, hx⟩ := nth_some hi
      simp only [l_spec_VolumeFault_w_0, s_spec_VolumeFault_w_0, dec_lt hi, dec_nn, Int.toNat_natCast, elemK_some hx, wrap_next hi (by omega), Bool.and_true, cond_true, atD_some hx, spec_l01IsWord_eq, cond_somes, oK_some_eq, Bool.cond_true_left]
      rfl
    · simp only [l_spec_VolumeFault_w_0, s_spec_VolumeFault_w_0, dec_nlt, cond_false]

theorem indexFunc_slot_eq {l : List KeySlot} {b : Bool} (hl : l.length ≤ 2 ^ 40) (hN : 2 ^ 40 < N) (k : Int → Option R) : g_slices_IndexFunc_KeySlot_Fimpl_VolumeFault_1_r N b l k = k (fstAt l.length (fun i => atD l i slotBad true)) := by
  unfold g_slices_IndexFunc_KeySlot_Fimpl_VolumeFault_1_r c_slices_IndexFunc_KeySlot_Fimpl_VolumeFault_1_r_0
  rw [srchI (l_slices_IndexFunc_KeySlot_Fimpl_VolumeFault_1_r_0 N b l.length l (fun n3 => k n3) (k (-1))) l.length (fun i => atD l i slotBad true) (fun n3 => k n3) (k (-1)) (fun f i hi => ?_) (fun f => ?_) (by omega)]
  · unfold fstAt
    split <;> rfl
  · obtain ⟨x, hx⟩ := nth_some hi
    simp only [l_slices_IndexFunc_KeySlot_Fimpl_VolumeFault_1_r_0, s_slices_IndexFunc_KeySlot_Fimpl_VolumeFault_1_r_0, dec_lt hi, dec_nn, Int.toNat_natCast, elemK_some hx, wrap_next hi (by omega), Bool.and_true, cond_true, atD_some hx, g_impl_VolumeFault_1, impl_yisWord_eq, cond_somes, oK_some_eq, Bool.cond_true_left]
    rfl
  · simp only [l_slices_IndexFunc_KeySlot_Fimpl_VolumeFault_1_r_0, s_slices_IndexFunc_KeySlot_Fimpl_VolumeFault_1_r_0, dec_nlt, cond_false]

theorem impl_VolumeFault_w_eq {s : ByteArray} {l : List KeySlot} {b : Bool} (hN : 2 ^ 40 < N) (k : Int → Option R) : g_impl_VolumeFault_w N b s l k = k (cond (volBad s l) 1 0) := by
  unfold g_impl_VolumeFault_w g_slices_ContainsFunc_KeySlot_Fimpl_VolumeFault_1_r
  have h1 : decide ((l.length : Int) ≥ 1) = decide (1 ≤ l.length) := decide_eq_decide.2 (by omega)
  have h2 : decide ((l.length : Int) ≤ 4) = decide (l.length ≤ 4) := decide_eq_decide.2 (by omega)
  rw [impl_yin_eq, h1, h2]
  unfold volBad
  by_cases hl : l.length ≤ 4
  · rw [indexFunc_slot_eq N (by omega) hN]
    simp only [fstAt_nonneg, any_atD, cond_somes, oK_some_eq, Bool.cond_true_left]
    exact cond_app _ k 1 0
  · rw [decide_eq_false hl, Bool.and_false]; rfl

theorem volBad_len {s : ByteArray} {l : List KeySlot} (h : volBad s l = false) : 1 ≤ l.length ∧ l.length ≤ 4 := by
  unfold volBad at h
  simp at h
  omega

def szKS (x : KeySlot) (n : Int) : Int := cond (decide (n - (x.fKey.size : Int) < 0)) (-1) (cond (decide (n - (x.fKey.size : Int) - (x.fTag.size : Int) < 0)) (-1) (n - (x.fKey.size : Int) - (x.fTag.size : Int)))

theorem laws_szKeySlot_eq (x : KeySlot) {n : Int} (h0 : 0 ≤ n) (h1 : n ≤ 2 ^ 40) (h2 : x.fKey.size ≤ 9223372036854775807) (h3 : x.fTag.size ≤ 9223372036854775807) (k : Int → Option R) : g_laws_szKeySlot N x.fSalt x.fKey x.fTag n k = k (szKS x n) := by
  unfold g_laws_szKeySlot szKS
  rw [w64 (n := n - (x.fKey.size : Int)) (by omega) (by omega)]
  by_cases h : n - (x.fKey.size : Int) < 0
  · rw [decide_eq_true h]; rfl
  · rw [decide_eq_false h, w64 (n := n - (x.fKey.size : Int) - (x.fTag.size : Int)) (by omega) (by omega)]
    cases decide (n - (x.fKey.size : Int) - (x.fTag.size : Int) < 0) <;> rfl

theorem szKS_le {x : KeySlot} {n : Int} (h : 0 ≤ szKS x n) : szKS x n ≤ n ∧ (x.fKey.size : Int) ≤ n ∧ (x.fTag.size : Int) ≤ n := by
  unfold szKS at h ⊢
  by_cases h1 : n - (x.fKey.size : Int) < 0
  · rw [decide_eq_true h1] at h; simp at h
  · rw [decide_eq_false h1] at h ⊢
    by_cases h2 : n - (x.fKey.size : Int) - (x.fTag.size : Int) < 0
    · rw [decide_eq_true h2] at h; simp at h
    · rw [decide_eq_false h2]
      simp only [cond_false]
      omega

theorem laws_szKeySlotS_eq {l : List KeySlot} {b : Bool} {n : Int} (h0 : 0 ≤ n) (h1 : n ≤ 2 ^ 30) (hl : l.length ≤ maxLen) (hx : ∀ x ∈ l, x.fKey.size ≤ 9223372036854775807 ∧ x.fTag.size ≤ 9223372036854775807) (hN : 2 ^ 40 < N) :
    ∃ v, (∀ k : Int → Option R, g_laws_szKeySlotS_r N b n l k = k v) ∧ (v < 0 ∨ (0 ≤ v ∧ v ≤ n ∧ (l.length : Int) ≤ n ∧ ∀ x ∈ l, (x.fKey.size : Int) ≤ n ∧ (x.fTag.size : Int) ≤ n)) := by
  have hl : l.length ≤ 9223372036854775807 := hl
  by_cases hc : n - (l.length : Int) < 0
  · refine ⟨-1, fun k => ?_, Or.inl (by omega)⟩
    unfold g_laws_szKeySlotS_r
    rw [w64 (by omega) (by omega), decide_eq_true hc]; rfl
  · have key := fun (k : Int → Option R) => foldS (fun f i s => l_laws_szKeySlotS_r_0 N b l (fun n4 => k (-1)) (fun n5 => k n5) f s i) l.length (fun i s => atD l i (fun x => decide (szKS x s < 0)) true) (fun i s => atD l i (fun x => szKS x s) s)
      (fun i s => 0 ≤ s ∧ s ≤ n ∧ ∀ j x, j < i → nth l j = some x → (x.fKey.size : Int) ≤ n ∧ (x.fTag.size : Int) ≤ n) k (k (-1)) (fun f i s hi hs => by
        obtain ⟨x, hx1⟩ := nth_some hi
        have hm : x ∈ l := by rw [nth_eq] at hx1; exact List.mem_of_getElem? hx1
        obtain ⟨q1, q2⟩ := hx x hm
        simp only [l_laws_szKeySlotS_r_0, s_laws_szKeySlotS_r_0, dec_lt hi, dec_nn, Int.toNat_natCast, elemK_some hx1, wrap_next hi (by omega), Bool.and_true, cond_true, atD_some hx1, laws_szKeySlot_eq N x hs.1 (by omega) q1 q2]
        refine ⟨trivial, fun hb => ?_⟩
        have hb : 0 ≤ szKS x s := by simpa using hb
        have := szKS_le hb
        refine ⟨hb, by omega, fun j y hj hy => ?_⟩
        by_cases hji : j = i
        · subst hji
          rw [hx1] at hy
          cases hy
          omega
        · exact hs.2.2 j y (by omega) hy) (fun f s hs => by
        simp only [l_laws_szKeySlotS_r_0, s_laws_szKeySlotS_r_0, dec_nlt, cond_false]) (s := n - (l.length : Int)) ⟨by omega, by omega, fun j x hj => absurd hj (by omega)⟩ (f := N) (by omega)
    have hrun : ∀ k : Int → Option R, g_laws_szKeySlotS_r N b n l k = l_laws_szKeySlotS_r_0 N b l (fun n4 => k (-1)) (fun n5 => k n5) N (n - (l.length : Int)) 0 := fun k => by
      unfold g_laws_szKeySlotS_r c_laws_szKeySlotS_r_0
      rw [w64 (by omega) (by omega), decide_eq_false hc]; rfl
    cases hr : runE (fun i s => atD l i (fun x => decide (szKS x s < 0)) true) (fun i s => atD l i (fun x => szKS x s) s) l.length 0 (n - (l.length : Int)) with
    | none =>
      refine ⟨-1, fun k => ?_, Or.inl (by omega)⟩
      rw [hrun k]
      have := (key k).1
      rw [hr] at this
      exact this
    | some v =>
      have h2 := (key (fun _ => none)).2 v hr
      refine ⟨v, fun k => ?_, Or.inr ⟨h2.1, h2.2.1, by omega, fun x hm => ?_⟩⟩
      · rw [hrun k]
        have := (key k).1
        rw [hr] at this
        exact this
      · obtain ⟨j, hj⟩ := List.getElem?_of_mem hm
        have hlt : j < l.length := by
          rcases Nat.lt_or_ge j l.length with h | h
          · exact h
          · rw [List.getElem?_eq_none h] at hj; cases hj
        exact h2.2.2 j x hlt (by rw [nth_eq]; exact hj)

theorem laws_szVolume_eq {s : ByteArray} {l : List KeySlot} {b : Bool} (hs : s.size ≤ 9223372036854775807) (hl : l.length ≤ maxLen) (hx : ∀ x ∈ l, x.fKey.size ≤ 9223372036854775807 ∧ x.fTag.size ≤ 9223372036854775807) (hN : 2 ^ 40 < N) :
    ∃ v, (∀ k : Int → Option R, g_laws_szVolume_r N b s 1048576 l k = k v) ∧ (v < 0 ∨ (0 ≤ v ∧ (l.length : Int) ≤ 1048576 ∧ (s.size : Int) ≤ 1048576 ∧ ∀ x ∈ l, (x.fKey.size : Int) ≤ 1048576 ∧ (x.fTag.size : Int) ≤ 1048576)) := by
  obtain ⟨v, h1, h2⟩ := laws_szKeySlotS_eq (R := R) N (b := b) (n := 1048576) (by omega) (by omega) hl hx hN
  rcases h2 with h2 | ⟨h2, h3, h4, h5⟩
  · exact ⟨-1, fun k => by unfold g_laws_szVolume_r; rw [h1, decide_eq_true h2]; rfl, .inl (by omega)⟩
  · by_cases h6 : v - (s.size : Int) < 0
    · exact ⟨-1, fun k => by unfold g_laws_szVolume_r; rw [h1, decide_eq_false (by omega), cond_false, w64 (by omega) (by omega), decide_eq_true h6]; rfl, .inl (by omega)⟩
    · exact ⟨v - (s.size : Int), fun k => by unfold g_laws_szVolume_r; rw [h1, decide_eq_false (by omega), cond_false, w64 (by omega) (by omega), decide_eq_false h6]; rfl, .inr ⟨by omega, h4, by omega, h5⟩⟩

theorem eqVolumeRes_ww_self {n : Int} {s : ByteArray} {l : List KeySlot} {b b1 : Bool} (hl : l.length ≤ 2 ^ 40) (hN : 2 ^ 40 < N) (k : Bool → Option R) : g_laws_eqVolumeRes_ww N n b s n b1 s l l k = k true := by
  unfold g_laws_eqVolumeRes_ww g_laws_eqVolume_ww
  rw [bne_self_eq_false, cond_false, laws_eqKeySlotS_ww_eq N hl hN]
  simp only [decide_true, Bool.not_true, cond_false]

theorem eqVolumeRes_rr_self {n : Int} {s : ByteArray} {l : List KeySlot} {b b1 : Bool} (hl : l.length ≤ 2 ^ 40) (hN : 2 ^ 40 < N) (k : Bool → Option R) : g_laws_eqVolumeRes_rr N n b s n b1 s l l k = k true := by
  unfold g_laws_eqVolumeRes_rr g_laws_eqVolume_rr
  rw [bne_self_eq_false, cond_false, laws_eqKeySlotS_rr_eq N hl hN]
  simp only [decide_true, Bool.not_true, cond_false]

theorem eqVolume_rr_self {s : ByteArray} {l : List KeySlot} {b b1 : Bool} (hl : l.length ≤ 2 ^ 40) (hN : 2 ^ 40 < N) (k : Bool → Option R) : g_laws_eqVolume_rr N b s b1 s l l k = k true := by
  unfold g_laws_eqVolume_rr
  rw [laws_eqKeySlotS_rr_eq N hl hN]
  simp only [decide_true, Bool.not_true, cond_false]

theorem held_w {n : Nat} {c : Int} {b : Bool} {s : ByteArray} (hn : n ≤ 2 ^ 40) (hN : 2 ^ 40 < N) (k : Int → Option R) : g_laws_heldVolumeRes_w N c b s 1 (rowsKeySlot 1 n) k = k (1 + 3 * (n : Int)) := by
  unfold g_laws_heldVolumeRes_w g_laws_heldVolume_w
  rw [laws_heldKeySlotS_w_eq N hn (by omega) (by omega) hN]
  have : decide (1 + 3 * (n : Int) < 0) = false := decide_eq_false (by omega)
  simp only [this, cond_false]

def longB (s : ByteArray) : Bool := decide ((s.size : Int) > 4096)

theorem longKey2_eq {s s1 : ByteArray} (hN : 2 ^ 40 < N) (k : Bool → Option R) : g_impl_ylongKey_w N false [s, s1] k = k (longB s || longB s1) := by
  unfold g_impl_ylongKey_w g_slices_ContainsFunc_string_Fimpl_ylongKey_1_w g_slices_IndexFunc_string_Fimpl_ylongKey_1_w c_slices_IndexFunc_string_Fimpl_ylongKey_1_w_0
  have := srchI (l_slices_IndexFunc_string_Fimpl_ylongKey_1_w_0 N false ([s, s1].length : Nat) [s, s1] (fun n => k (decide (n ≥ 0))) (k (decide ((-1 : Int) ≥ 0)))) 2 (fun i => atD [s, s1] i longB true) (fun n => k (decide (n ≥ 0))) (k (decide ((-1 : Int) ≥ 0))) (fun f i hi => by
    obtain ⟨x, hx⟩ := nth_some (l := [s, s1]) (n := i) hi
    have hi' : i < [s, s1].length := hi
    simp only [l_slices_IndexFunc_string_Fimpl_ylongKey_1_w_0, s_slices_IndexFunc_string_Fimpl_ylongKey_1_w_0, dec_lt hi', dec_nn, Int.toNat_natCast, elemK_some hx, wrap_next hi (by omega), Bool.and_true, cond_true, atD_some hx, g_impl_ylongKey_1, longB]) (fun f => by
    have : decide (((2 : Nat) : Int) < (([s, s1].length : Nat) : Int)) = false := by simp
    simp only [l_slices_IndexFunc_string_Fimpl_ylongKey_1_w_0, s_slices_IndexFunc_string_Fimpl_ylongKey_1_w_0, this, cond_false]) (f := N) (by omega)
  refine this.trans ?_
  have e : (List.range 2).find? (fun i => atD [s, s1] i longB true) = cond (longB s) (some 0) (cond (longB s1) (some 1) none) := by
    have e1 : atD [s, s1] 0 longB true = longB s := rfl
    have e2 : atD [s, s1] 1 longB true = longB s1 := rfl
    rw [show List.range 2 = [0, 1] from rfl, List.find?_cons, List.find?_cons, e1, e2]
    cases longB s <;> cases longB s1 <;> rfl
  rw [e]
  cases longB s <;> cases longB s1 <;> rfl

def tagOf (s s1 : ByteArray) : ByteArray := cond (longB s || longB s1) ⟨[].toArray⟩ (putWord (mix (s ++ s1) 21) ++ putWord (mix (s1 ++ s) 22))

theorem longB_size {s : ByteArray} (h : longB s = false) : s.size ≤ 4096 := by
  have := of_decide_eq_false h
  omega

theorem spec_TagOf_eq {s s1 : ByteArray} (hN : 2 ^ 40 < N) (k : ByteArray → Option R) : g_spec_TagOf N s s1 k = k (tagOf s s1) := by
  unfold g_spec_TagOf tagOf
  rw [cond_somes, oK_some_eq, Bool.cond_true_left]
  change cond (longB s || longB s1) _ _ = _
  cases h : (longB s || longB s1) with
  | true => rfl
  | false =>
    obtain ⟨h1, h2⟩ := Bool.or_eq_false_iff.1 h
    have h1 := longB_size h1
    have h2 := longB_size h2
    simp only [cond_false]
    rw [ble_t (by omega), cond_true, spec_Mix_eq N hN, decide_eq_false (by rw [ByteArray.size_append]; omega), cond_false, spec_PutWord_eq, ble_t (by omega), cond_true, spec_Mix_eq N hN, decide_eq_false (by rw [ByteArray.size_append]; omega), cond_false, spec_PutWord_eq, putWord_size, putWord_size]
    rfl

theorem impl_TagOf_eq {s s1 : ByteArray} (hN : 2 ^ 40 < N) (k : ByteArray → Option R) : g_impl_TagOf N s s1 k = k (tagOf s s1) := by
  unfold g_impl_TagOf tagOf
  rw [longKey2_eq N hN]
  cases h : (longB s || longB s1) with
  | true => rfl
  | false =>
    obtain ⟨h1, h2⟩ := Bool.or_eq_false_iff.1 h
    have h1 := longB_size h1
    have h2 := longB_size h2
    simp only [cond_false]
    rw [ble_t (by omega), cond_true, impl_ymix_eq N (by rw [ByteArray.size_append]; omega) hN, impl_PutWord_eq, ble_t (by omega), cond_true, impl_ymix_eq N (by rw [ByteArray.size_append]; omega) hN, impl_PutWord_eq, putWord_size, putWord_size]
    rfl

def sh (W : Int) : Nat → Int
  | 0 => W
  | d + 1 => sh W d / 256

theorem sh_pow (W : Int) : ∀ {d : Nat}, d < 3 → Int.fdiv W (2 ^ (Min.min (8 * d) 64)) = sh W d
  | 0, _ => by rw [fdiv_lit _ (by decide)]; show W / 1 = W; omega
  | 1, _ => by rw [fdiv_lit _ (by decide)]; rfl
  | 2, _ => by rw [fdiv_lit _ (by decide)]; show W / 65536 = W / 256 / 256; omega
  | d + 3, h => by omega

def cryptW (s : ByteArray) (n : Int) (q : Nat) : Int := mix (s ++ putWord n ++ putWord (q : Int)) 11

def xb (x c : Int) : Int := IntKind.wrap .u8 (((BitVec.ofInt 8 x ^^^ BitVec.ofInt 8 (IntKind.wrap .u8 c)).toNat : Nat) : Int)

def cryptB (s : ByteArray) (n : Int) (i : Nat) (x : Int) : Int := xb x (sh (cryptW s n (i / 3)) (i % 3))

def cryptL (s : ByteArray) (n : Int) (l : List Int) : List Int := (List.range l.length).map fun i => atD l i (cryptB s n i) 0

theorem cryptL_length (s : ByteArray) (n : Int) (l : List Int) : (cryptL s n l).length = l.length := by simp [cryptL]

theorem nth_cryptL {s : ByteArray} {n : Int} {l : List Int} {i : Nat} {x : Int} (h : nth l i = some x) : nth (cryptL s n l) i = some (cryptB s n i x) := by
  have hi := nth_lt h
  unfold cryptL
  rw [nth_map, nth_eq, List.getElem?_range hi]
  show some (atD l i (cryptB s n i) 0) = _
  rw [atD_some h]

theorem cryptL_of {s : ByteArray} {n : Int} {l ys : List Int} (hl : ys.length = l.length) (h : ∀ j x, nth l j = some x → nth ys j = some (cryptB s n j x)) : ys = cryptL s n l := by
  refine ext_nth fun j => ?_
  rcases Nat.lt_or_ge j l.length with hj | hj
  · obtain ⟨x, hx⟩ := nth_some hj
    rw [h j x hx, nth_cryptL hx]
  · rw [nth_none (by omega), nth_none (by rw [cryptL_length]; exact hj)]

def cryptBad (s t : ByteArray) : Bool := longB s || decide ((t.size : Int) > 65536)

def crypt (s : ByteArray) (n : Int) (t : ByteArray) : ByteArray := cond (cryptBad s t) ⟨[].toArray⟩ (toBytes (cryptL s n (ofBytes t)))

theorem spec_Crypt_go {s : ByteArray} {n : Int} {l : List Int} (hs : s.size ≤ 4096) (hl : l.length ≤ 65536) (hN : 2 ^ 40 < N) (kN : List Int → Option R) : l_spec_Crypt_0 N (s ++ putWord n) false kN N 0 0 l = kN (cryptL s n l) := by
  obtain ⟨h1, h2, _, h4, _⟩ := fold (fun f i (st : Int × List Int) => l_spec_Crypt_0 N (s ++ putWord n) false kN f st.1 i st.2) l.length
    (fun i st => (cond (decide (i % 3 = 0)) (cryptW s n (i / 3)) st.1, nset st.2 i (atD st.2 i (fun x => xb x (sh (cond (decide (i % 3 = 0)) (cryptW s n (i / 3)) st.1) (i % 3))) 0)))
    (fun i st => st.2.length = l.length ∧ (i % 3 ≠ 0 → st.1 = cryptW s n (i / 3)) ∧ (∀ j x, j < i → nth l j = some x → nth st.2 j = some (cryptB s n j x)) ∧ ∀ j, i ≤ j → nth st.2 j = nth l j) (fun st => kN st.2)
    (fun f i st0 hi hst => by
      obtain ⟨w, ys⟩ := st0
      obtain ⟨i1, i2, i3, i4⟩ := hst
      dsimp only at i1 i2 i3 i4
      have hiy : i < ys.length := by omega
      obtain ⟨x, hx⟩ := nth_some hiy
      have hm : (Int.tmod (i : Int) 3 == 0) = decide (i % 3 = 0) := by
        rw [tmod_nn (by omega), beq_dec]
        exact decide_eq_decide.2 (by omega)
      have hd : IntKind.wrap .i64 (Int.tdiv (i : Int) 3) = ((i / 3 : Nat) : Int) := by rw [tdiv_nn (by omega), w64 (by omega) (by omega)]; omega
      have h8 : IntKind.wrap .u64 (IntKind.wrap .i64 (8 * Int.tmod (i : Int) 3)) = ((8 * (i % 3) : Nat) : Int) := by
        rw [tmod_nn (by omega), w64 (by omega) (by omega), wu64 (by omega) (by omega)]; omega
      have hsz : (s ++ putWord n).size = s.size + 4 := by rw [ByteArray.size_append, putWord_size]
      have hsz2 : ∀ q : Int, (s ++ putWord n ++ putWord q).size = s.size + 8 := fun q => by rw [ByteArray.size_append, hsz, putWord_size]
      have hbig : ∀ q : Int, decide (((s ++ putWord n ++ putWord q).size : Int) > 65536) = false := fun q => decide_eq_false (by rw [hsz2]; omega)
      refine ⟨?_, by simpa using i1, fun hne => ?_, fun j y hj hy => ?_, fun j hj => ?_⟩
      · simp only [l_spec_Crypt_0, s_spec_Crypt_0, dec_lt hiy, dec_nn, Int.toNat_natCast, hm, hd, spec_PutWord_eq, hsz, putWord_size, ble_t (show s.size + 4 + 4 ≤ 9223372036854775807 by omega), spec_Mix_eq N hN, hbig, cond_true, cond_false, cond_somes, oK_some_eq, elemK_some hx, h8, decide_eq_false (show ¬ (((8 * (i % 3) : Nat) : Int) < 0) by omega), sh_pow _ (show i % 3 < 3 by omega), blt_t hiy, wrap_next hi (by omega), Bool.and_true, atD_some hx]
        rfl
      · dsimp only
        by_cases h0 : i % 3 = 0
        · rw [decide_eq_true h0, cond_true]; congr 1; omega
        · rw [decide_eq_false h0, cond_false, i2 h0]; congr 1; omega
      · dsimp only
        rw [nth_nset]
        split
        · rename_i hc
          have hji : j = i := by have := hc.1; omega
          rw [hji] at hy ⊢
          have hxy : x = y := by
            have := i4 i (Nat.le_refl _)
            rw [hx, hy] at this
            exact Option.some.inj this
          subst hxy
          rw [atD_some hx]
          unfold cryptB
          by_cases h0 : i % 3 = 0
          · rw [decide_eq_true h0, cond_true]
          · rw [decide_eq_false h0, cond_false, i2 h0]
        · rename_i hc
          exact i3 j y (by have : j ≠ i := fun e => hc ⟨e, by omega⟩; omega) hy
      · dsimp only
        rw [nth_nset, if_neg (fun e => by have := e.1; omega)]
        exact i4 j (by omega))
    (fun f st hst => by
      obtain ⟨w, ys⟩ := st
      have i1 : ys.length = l.length := hst.1
      simp only [l_spec_Crypt_0, s_spec_Crypt_0, i1, dec_nlt, cond_false]) (s := (0, l)) ⟨rfl, fun h => absurd rfl h, fun j x hj => absurd hj (by omega), fun _ _ => rfl⟩ (f := N) (by omega)
  refine h1.trans ?_
  congr 1
  exact cryptL_of h2 fun j x hx => h4 j x (nth_lt hx) hx

theorem spec_Crypt_eq {s : ByteArray} {n : Int} {t : ByteArray} (hN : 2 ^ 40 < N) (k : ByteArray → Option R) : g_spec_Crypt N s n t k = k (crypt s n t) := by
  unfold g_spec_Crypt crypt
  rw [cond_somes, oK_some_eq, Bool.cond_true_left]
  change cond (cryptBad s t) _ _ = _
  cases h : cryptBad s t with
  | true => rfl
  | false =>
    obtain ⟨h1, h2⟩ := Bool.or_eq_false_iff.1 h
    have h1 := longB_size h1
    have h2 := of_decide_eq_false h2
    simp only [cond_false, spec_PutWord_eq]
    rw [putWord_size, ble_t (by omega), cond_true]
    unfold c_spec_Crypt_0
    rw [spec_Crypt_go N h1 (by rw [ofBytes_length]; omega) hN, Nat.zero_add, ble_t (Nat.le_refl _), cond_true, seg_all]

theorem impl_Crypt_in {s : ByteArray} {n : Int} {i L : Nat} {W : Int} (hL : L ≤ 65536) (hi : i ≤ 65536) (kN : List Int → Option R) : ∀ (d j f : Nat) (ys : List Int), j + d = min L (i + 3) → i ≤ j → d < f → ys.length = L →
    ∃ ys', l_impl_Crypt_2 N s n false (i : Int) (L : Int) (i : Int) kN f (sh W (j - i)) (j : Int) ys = kN ys' ∧ ys'.length = L ∧ (∀ p x, j ≤ p → p < i + 3 → nth ys p = some x → nth ys' p = some (xb x (sh W (p - i)))) ∧ ∀ p, p < j ∨ i + 3 ≤ p → nth ys' p = nth ys p := by
  have hw : IntKind.wrap .i64 ((i : Int) + 3) = (i : Int) + 3 := w64 (by omega) (by omega)
  have hb : ∀ j : Nat, decide ((j : Int) < (if (decide ((L : Int) < (i : Int) + 3)) = true then (L : Int) else (i : Int) + 3)) = decide (j < min L (i + 3)) := fun j => by
    refine decide_eq_decide.2 ?_
    by_cases h : (L : Int) < (i : Int) + 3
    · rw [decide_eq_true h, if_pos rfl]; omega
    · rw [decide_eq_false h, if_neg (by simp)]; omega
  intro d
  induction d with
  | zero =>
    intro j f ys hj hij hf hys
    obtain ⟨f, rfl⟩ : ∃ g, f = g + 1 := ⟨f - 1, by omega⟩
    refine ⟨ys, ?_, hys, fun p x h1 h2 h3 => ?_, fun _ _ => rfl⟩
    · simp only [l_impl_Crypt_2, s_impl_Crypt_2, hys, hw, hb, decide_eq_false (show ¬ j < min L (i + 3) by omega), cond_false]
    · have := nth_lt h3; omega
  | succ d ih =>
    intro j f ys hj hij hf hys
    obtain ⟨f, rfl⟩ : ∃ g, f = g + 1 := ⟨f - 1, by omega⟩
    have hjL : j < ys.length := by omega
    obtain ⟨x, hx⟩ := nth_some hjL
    obtain ⟨ys', h1, h2, h3, h4⟩ := ih (j + 1) f (nset ys j (xb x (sh W (j - i)))) (by omega) (by omega) (by omega) (by simpa using hys)
    refine ⟨ys', ?_, h2, fun p y hp1 hp2 hy => ?_, fun p hp => ?_⟩
    · rw [← h1]
      have hjL2 : j < L := by omega
      have hs : sh W (j + 1 - i) = sh W (j - i) / 256 := by rw [show j + 1 - i = (j - i) + 1 by omega]; rfl
      rw [hs]
      simp only [l_impl_Crypt_2, s_impl_Crypt_2, hys, hw, hb, decide_eq_true (show j < min L (i + 3) by omega), dec_lt hjL2, dec_nn, Int.toNat_natCast, elemK_some hx, blt_t hjL2, wrap_next hjL2 (by omega), Bool.and_true, cond_true, fdiv_lit _ (show (0 : Int) ≤ 256 by omega)]
      rfl
    · by_cases hpj : p = j
      · subst hpj
        rw [h4 p (by omega), nth_nset, if_pos ⟨rfl, hjL⟩]
        rw [hx] at hy; cases hy; rfl
      · exact h3 p y (by omega) hp2 (by rw [nth_nset, if_neg (fun e => hpj e.1)]; exact hy)
    · rw [h4 p (by omega), nth_nset, if_neg (fun e => by have := e.1; omega)]

theorem impl_Crypt_go {s : ByteArray} {n : Int} {l : List Int} (hs : s.size ≤ 4096) (hl : l.length ≤ 65536) (hN : 2 ^ 40 < N) (kN : List Int → Option R) :
    ∀ (d i f : Nat) (ys : List Int), i + d = l.length → d < f → ys.length = l.length → (∀ p x, p < 3 * ((i + 2) / 3) → nth l p = some x → nth ys p = some (cryptB s n p x)) → (∀ p, 3 * ((i + 2) / 3) ≤ p → nth ys p = nth l p) → l_impl_Crypt_0 N s n false (l.length : Int) kN f (i : Int) ys = kN (cryptL s n l) := by
  intro d
  induction d with
  | zero =>
    intro i f ys hi hf hys h1 h2
    obtain ⟨f, rfl⟩ : ∃ g, f = g + 1 := ⟨f - 1, by omega⟩
    have : i = l.length := by omega
    subst this
    simp only [l_impl_Crypt_0, s_impl_Crypt_0, dec_nlt, cond_false]
    congr 1
    exact cryptL_of hys fun j x hx => h1 j x (by have := nth_lt hx; omega) hx
  | succ d ih =>
    intro i f ys hi hf hys h1 h2
    obtain ⟨f, rfl⟩ : ∃ g, f = g + 1 := ⟨f - 1, by omega⟩
    have hil : i < l.length := by omega
    have hm : (Int.tmod (i : Int) 3 == 0) = decide (i % 3 = 0) := by
      rw [tmod_nn (by omega), beq_dec]
      exact decide_eq_decide.2 (by omega)
    by_cases h0 : i % 3 = 0
    · have hd : IntKind.wrap .i64 (Int.tdiv (i : Int) 3) = ((i / 3 : Nat) : Int) := by rw [tdiv_nn (by omega), w64 (by omega) (by omega)]; omega
      have hsz : (catB [s, putWord n, putWord ((i / 3 : Nat) : Int)]).size = s.size + 8 := by
        rw [catB_size]; simp only [List.map_cons, List.map_nil, List.sum_cons, List.sum_nil, putWord_size]; omega
      have hcat : catB [s, putWord n, putWord ((i / 3 : Nat) : Int)] = s ++ putWord n ++ putWord ((i / 3 : Nat) : Int) := by
        simp only [catB]; rw [ba_append_empty, ByteArray.append_assoc]
      simp only [l_impl_Crypt_0, s_impl_Crypt_0, dec_lt hil, hm, decide_eq_true h0, cond_true, impl_PutWord_eq, hd]
      rw [impl_yjoinw_eq N (by simp) (by rw [hsz]; omega), impl_ymix_eq N (by rw [hsz]; omega) hN, hcat]
      unfold c_impl_Crypt_2
      obtain ⟨ys', e1, e2, e3, e4⟩ := impl_Crypt_in (R := R) N (s := s) (n := n) (i := i) (L := l.length) (W := cryptW s n (i / 3)) hl (by omega) (fun l2 => l_impl_Crypt_0 N s n false (l.length : Int) kN f (IntKind.wrap .i64 ((i : Int) + 1)) l2) (min l.length (i + 3) - i) i N ys (by omega) (Nat.le_refl _) (by omega) hys
      rw [Nat.sub_self] at e1
      refine Eq.trans e1 ?_
      rw [wrap_next hil (by omega)]
      refine ih (i + 1) f ys' (by omega) (by omega) e2 (fun p x hp hx => ?_) (fun p hp => ?_)
      · by_cases hpi : p < i
        · rw [e4 p (.inl hpi)]; exact h1 p x (by omega) hx
        · have hy : nth ys p = some x := by rw [h2 p (by omega)]; exact hx
          rw [e3 p x (by omega) (by omega) hy]
          unfold cryptB
          rw [show p / 3 = i / 3 by omega, show p % 3 = p - i by omega]
      · rw [e4 p (.inr (by omega))]; exact h2 p (by omega)
    · simp only [l_impl_Crypt_0, s_impl_Crypt_0, dec_lt hil, hm, decide_eq_false h0, cond_true, cond_false, wrap_next hil (show l.length ≤ 2 ^ 62 by omega)]
      refine ih (i + 1) f ys (by omega) (by omega) hys (fun p x hp hx => h1 p x (by omega) hx) (fun p hp => h2 p (by omega))

theorem ybig_eq {t : ByteArray} (hN : 2 ^ 40 < N) (k : Bool → Option R) : g_impl_ybig_w N false [t] k = k (decide ((t.size : Int) > 65536)) := by
  obtain ⟨M, rfl⟩ : ∃ M, N = M + 2 := ⟨N - 2, by omega⟩
  unfold g_impl_ybig_w c_impl_ybig_w_0
  have hx : nth [t] 0 = some t := rfl
  show cond (decide ((t.size : Int) > 65536)) (k true) (k false) = _
  cases decide ((t.size : Int) > 65536) <;> rfl

theorem impl_Crypt_eq {s : ByteArray} {n : Int} {t : ByteArray} (hN : 2 ^ 40 < N) (k : ByteArray → Option R) : g_impl_Crypt N s n t k = k (crypt s n t) := by
  unfold g_impl_Crypt crypt
  rw [longKey_eq N hN, ybig_eq N hN, cond_somes, oK_some_eq, Bool.cond_true_left]
  change cond (cryptBad s t) _ _ = _
  cases h : cryptBad s t with
  | true => rfl
  | false =>
    obtain ⟨h1, h2⟩ := Bool.or_eq_false_iff.1 h
    have h1 := longB_size h1
    have h2 := of_decide_eq_false h2
    simp only [cond_false]
    unfold c_impl_Crypt_0
    have hlen : (ofBytes t).length ≤ 65536 := by rw [ofBytes_length]; omega
    have := impl_Crypt_go (R := R) N (s := s) (n := n) (l := ofBytes t) h1 hlen hN (fun l3 => cond (Nat.ble (0 + l3.length) l3.length) (k (toBytes (seg l3 0 l3.length))) none) (ofBytes t).length 0 N (ofBytes t) (by omega) (by omega) rfl (fun p x hp => absurd hp (by omega)) (fun _ _ => rfl)
    refine this.trans ?_
    rw [Nat.zero_add, ble_t (Nat.le_refl _), cond_true, seg_all]


theorem markRes_w {c : Int} {b : Bool} {s : ByteArray} {l : List KeySlot} (hl : l.length ≤ 2 ^ 40) (hN : 2 ^ 40 < N) (K : Int → List KeySlot → Option R) : g_laws_markVolumeRes_w N c b s 1 l K = K (1 + 3 * (l.length : Int)) (rowsKeySlot 1 l.length) := by
  unfold g_laws_markVolumeRes_w g_laws_markVolume_w
  rw [laws_markKeySlotS_w_eq N hl (by omega) (by omega) hN]

/-- A search for what a kind of row gives. -/
theorem srchS {T S : Type} (lp : Nat → Int → Option R) (l : List T) (p : T → Option S) (kR : S → Option R) (kN : Option R)
    (h : ∀ f i x, i < l.length → nth l i = some x → lp (f + 1) (i : Int) = match p x with | some y => kR y | none => lp f ((i + 1 : Nat) : Int))
    (he : ∀ f, lp (f + 1) (l.length : Int) = kN) {f : Nat} (hf : l.length < f) : lp f 0 = match l.findSome? p with | some y => kR y | none => kN := by
  have key : ∀ d i f, i + d = l.length → d < f → lp f (i : Int) = match (l.drop i).findSome? p with | some y => kR y | none => kN := by
    intro d
    induction d with
    | zero =>
      intro i f hi hf
      obtain ⟨f, rfl⟩ : ∃ j, f = j + 1 := ⟨f - 1, by omega⟩
      have : i = l.length := by omega
      subst this
      rw [he f, List.drop_of_length_le (Nat.le_refl _)]
      rfl
    | succ d ih =>
      intro i f hi hf
      obtain ⟨f, rfl⟩ : ∃ j, f = j + 1 := ⟨f - 1, by omega⟩
      have hil : i < l.length := by omega
      obtain ⟨x, hx⟩ := nth_some hil
      have hdr : l.drop i = x :: l.drop (i + 1) := by
        have hx2 := hx
        rw [nth_eq] at hx2
        obtain ⟨h1, h2⟩ := List.getElem?_eq_some_iff.1 hx2
        rw [← h2]; exact List.drop_eq_getElem_cons h1
      rw [h f i x hil hx, hdr, List.findSome?_cons]
      cases p x with
      | some y => rfl
      | none => exact ih (i + 1) f (by omega) (by omega)
  exact key l.length 0 f (by omega) hf

def opens (s pw : ByteArray) (x : KeySlot) : Option ByteArray := cond (!decide (tagOf pw x.fKey = x.fTag)) none (cond (decide (tagOf (crypt pw x.fSalt x.fKey) ⟨[].toArray⟩ = s)) (some (crypt pw x.fSalt x.fKey)) none)

def openR (s pw : ByteArray) (l : List KeySlot) : Int × ByteArray := cond (longB pw) (2, ⟨[].toArray⟩) (cond (volBad s l) (1, ⟨[].toArray⟩) (match l.findSome? (opens s pw) with
  | some y => (0, y)
  | none => (7, ⟨[].toArray⟩)))

theorem volBad_code (s : ByteArray) (l : List KeySlot) : ((cond (volBad s l) (1 : Int) 0) != 0) = volBad s l := by cases volBad s l <;> rfl

theorem spec_OpenVolume_eq {s pw : ByteArray} {l : List KeySlot} {b : Bool} (hN : 2 ^ 40 < N) (k : Int → ByteArray → Option R) : g_spec_OpenVolume_w N b s pw l k = k (openR s pw l).1 (openR s pw l).2 := by
  unfold g_spec_OpenVolume_w openR
  change cond (longB pw) _ _ = _
  cases longB pw with
  | true => rfl
  | false =>
    rw [cond_false, spec_VolumeFault_w_eq N hN, volBad_code]
    cases hv : volBad s l with
    | true => rfl
    | false =>
      have hl := volBad_len hv
      simp only [cond_false]
      unfold c_spec_OpenVolume_w_0
      rw [srchS (l_spec_OpenVolume_w_0 N pw l b s 0 ⟨[].toArray⟩ (fun s8 => k 0 s8) (k 7 ⟨[].toArray⟩)) l (opens s pw) (fun s8 => k 0 s8) (k 7 ⟨[].toArray⟩) (fun f i x hi hx => ?_) (fun f => ?_) (by omega)]
      · cases l.findSome? (opens s pw) <;> rfl
      · simp only [l_spec_OpenVolume_w_0, s_spec_OpenVolume_w_0, dec_lt hi, dec_nn, Int.toNat_natCast, elemK_some hx, wrap_next hi (by omega), Bool.and_true, cond_true, spec_TagOf_eq N hN, spec_Crypt_eq N hN, opens]
        cases decide (tagOf pw x.fKey = x.fTag) <;> cases decide (tagOf (crypt pw x.fSalt x.fKey) ⟨[].toArray⟩ = s) <;> rfl
      · simp only [l_spec_OpenVolume_w_0, s_spec_OpenVolume_w_0, dec_nlt, cond_false]

theorem impl_yopenVolume_eq {s pw : ByteArray} {l : List KeySlot} {b : Bool} (hl : l.length ≤ 4) (hN : 2 ^ 40 < N) (k : ByteArray → Bool → Option R) : g_impl_yopenVolume_w N b s pw l k = match l.findSome? (opens s pw) with | some y => k y true | none => k ⟨[].toArray⟩ false := by
  unfold g_impl_yopenVolume_w c_impl_yopenVolume_w_0
  rw [srchS (l_impl_yopenVolume_w_0 N pw b l.length l b s (fun s7 => k s7 true) (k ⟨[].toArray⟩ false)) l (opens s pw) (fun s7 => k s7 true) (k ⟨[].toArray⟩ false) (fun f i x hi hx => ?_) (fun f => ?_) (f := N) (by omega)]
  · cases l.findSome? (opens s pw) <;> rfl
  · simp only [l_impl_yopenVolume_w_0, s_impl_yopenVolume_w_0, dec_lt hi, dec_nn, Int.toNat_natCast, elemK_some hx, wrap_next hi (by omega), Bool.and_true, cond_true, impl_TagOf_eq N hN, impl_Crypt_eq N hN, opens]
    cases decide (tagOf pw x.fKey = x.fTag) <;> cases decide (tagOf (crypt pw x.fSalt x.fKey) ⟨[].toArray⟩ = s) <;> rfl
  · simp only [l_impl_yopenVolume_w_0, s_impl_yopenVolume_w_0, dec_nlt, cond_false]

def addSlot (s2 : ByteArray) (n : Int) (key : ByteArray) : KeySlot := ⟨n, crypt s2 n key, tagOf s2 (crypt s2 n key)⟩

def addF (s pw s2 : ByteArray) (n : Int) (l : List KeySlot) (k : Int → Bool → ByteArray → List KeySlot → Option R) : Option R :=
  cond (longB pw || longB s2) (k 2 true ⟨[].toArray⟩ []) (cond ((openR s pw l).1 != 0) (k (openR s pw l).1 true ⟨[].toArray⟩ []) (cond (!isW n) (k 1 true ⟨[].toArray⟩ []) (cond ((l.length : Int) == 4) (k 4 true ⟨[].toArray⟩ []) (k 0 false s (l ++ [addSlot s2 n (openR s pw l).2])))))

theorem spec_AddPass_eq {s pw s2 : ByteArray} {n : Int} {l : List KeySlot} {b : Bool} (hl : l.length ≤ 2 ^ 30) (hN : 2 ^ 40 < N) (k : Int → Bool → ByteArray → List KeySlot → Option R) : g_spec_AddPass_w N b s pw s2 n l k = addF s pw s2 n l k := by
  unfold g_spec_AddPass_w addF
  simp only [cond_somes, oK_some_eq, Bool.cond_true_left, spec_OpenVolume_eq N hN, spec_l01IsWord_eq, g_spec_l15Slot, spec_Crypt_eq N hN, spec_TagOf_eq N hN]
  rw [room (n := 0 + l.length) (by omega) (by omega)]
  have h2 : roomOk (([] ++ l).length + [addSlot s2 n (openR s pw l).2].length) 40 = true := room (by simp; omega) (by simp; omega)
  change cond (longB pw || longB s2) _ (cond _ _ (cond (!isW n) _ (cond _ _ (cond true (cond (roomOk (([] ++ l).length + [addSlot s2 n (openR s pw l).2].length) 40) _ _) _)))) = _
  rw [h2]
  rfl

theorem impl_AddPass_eq {s pw s2 : ByteArray} {n : Int} {l : List KeySlot} {b : Bool} (hb : b = false) (hl : l.length ≤ 2 ^ 30) (hN : 2 ^ 40 < N) (k : Int → Bool → ByteArray → List KeySlot → Option R) : g_impl_AddPass_w N b s pw s2 n l k = addF s pw s2 n l k := by
  subst hb
  unfold g_impl_AddPass_w addF
  rw [longKey2_eq N hN]
  cases h1 : (longB pw || longB s2) with
  | true => rfl
  | false =>
    obtain ⟨h1a, _⟩ := Bool.or_eq_false_iff.1 h1
    rw [cond_false, cond_false, impl_VolumeFault_w_eq N hN, volBad_code]
    unfold openR
    rw [h1a, cond_false]
    cases hv : volBad s l with
    | true => rfl
    | false =>
      have hlv := volBad_len hv
      simp only [cond_false]
      rw [impl_yopenVolume_eq N hlv.2 hN]
      cases l.findSome? (opens s pw) with
      | none => rfl
      | some y =>
        simp only [impl_yisWord_eq, g_slices_Clone_KeySlot_r, g_impl_yslot, impl_Crypt_eq N hN, impl_TagOf_eq N hN, Bool.not_true, cond_false, cond_same, List.nil_append]
        rw [room (n := 0 + l.length) (by omega) (by omega)]
        have h2 : roomOk (l.length + [addSlot s2 n y].length) 40 = true := room (by simp; omega) (by simp; omega)
        change cond (!isW n) _ (cond _ _ (cond true (cond (roomOk (l.length + [addSlot s2 n y].length) 40) _ _) _)) = _
        rw [h2]
        rfl

theorem law_AddPass {s pw s2 : ByteArray} {n : Int} {l : List KeySlot} {b : Bool} (hs : s.size ≤ maxLen) (hl : l.length ≤ maxLen) (hr : ∀ x ∈ l, ∀ v ∈ rlKeySlot.cells x, svWf v) (hN : 2 ^ 40 < N) (k : Bool → Option R) : g_laws_FnExactAddPass_r N b s pw s2 n l k = k true := by
  have hx0 : ∀ x ∈ l, x.fKey.size ≤ 9223372036854775807 ∧ x.fTag.size ≤ 9223372036854775807 := fun x hx =>
    ⟨hr x hx (.str x.fKey) (by simp [rlKeySlot, tlKeySlot]), hr x hx (.str x.fTag) (by simp [rlKeySlot, tlKeySlot])⟩
  unfold g_laws_FnExactAddPass_r
  cases decide ((pw.size : Int) > 1048576) with
  | true => rfl
  | false =>
    cases decide ((s2.size : Int) > 1048576) with
    | true => rfl
    | false =>
    rw [cond_false, cond_false]
    obtain ⟨v, hv, hv2⟩ := laws_szVolume_eq (R := R) N (b := b) hs hl hx0 hN
    rw [hv]
    rcases hv2 with hv2 | ⟨hv0, hl1, hs1, _⟩
    · rw [decide_eq_true hv2]; rfl
    rw [decide_eq_false (by omega), cond_false]
    have hl' : l.length ≤ 2 ^ 40 := by omega
    have hl3 : l.length ≤ 2 ^ 30 := by omega
    have hto : ∀ (b : Bool) (K : List KeySlot → Option R), g_laws_toVolume_r N b s l K = K l := fun b K => by
      unfold g_laws_toVolume_r; rw [laws_toKeySlotS_r_eq N hl' hN]
    have hmk : ∀ K : Int → List KeySlot → Option R, g_laws_markVolume_w N false s 1 l K = K (1 + 3 * (l.length : Int)) (rowsKeySlot 1 l.length) := fun K => by
      unfold g_laws_markVolume_w; rw [laws_markKeySlotS_w_eq N hl' (by omega) (by omega) hN]
    have h0 : ([] : List KeySlot).length ≤ 2 ^ 40 := by simp
    have h1 : ∀ x : KeySlot, (l ++ [x]).length ≤ 2 ^ 40 := fun x => by rw [List.length_append, List.length_singleton]; omega
    have d : ∀ m : Nat, decide (1 + 3 * (m : Int) < 0) = false := fun m => decide_eq_false (by omega)
    simp only [hto, spec_AddPass_eq N hl3 hN, impl_AddPass_eq N rfl hl3 hN, addF, hmk]
    cases (longB pw || longB s2) <;> cases ((openR s pw l).1 != 0) <;> cases isW n <;> cases ((l.length : Int) == 4) <;>
      simp only [cond_true, cond_false, Bool.not_true, Bool.not_false, oK_some_eq, eqVolume_rr_self N hl' hN, eqVolumeRes_ww_self N h0 hN, eqVolumeRes_ww_self N (h1 _) hN, eqVolumeRes_rr_self N h0 hN, eqVolumeRes_rr_self N (h1 _) hN, markRes_w N h0 hN, markRes_w N (h1 _) hN, held_w N h0 hN, held_w N (h1 _) hN, d, bne_self_eq_false]

end
end Go.Sa
