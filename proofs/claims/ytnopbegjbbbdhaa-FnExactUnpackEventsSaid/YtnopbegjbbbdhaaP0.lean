import Derived.Test.YtnopbegjbbbdhaaW1
set_option linter.all false
namespace Go.Sa
open Go Go.Eng
section
variable {R : Type} (N : Nat)
variable {R : Type}

theorem laws_eqEvent_eq (x y : Event) (k : Bool → Option R) : g_laws_eqEvent N x.fAt x.fKind x.fNum x.fValue y.fAt y.fKind y.fNum y.fValue k = k (decide (x = y)) := by
  unfold g_laws_eqEvent
  by_cases h0 : x.fAt = y.fAt
  case neg =>
    rw [decide_eq_false (show ¬ x = y from fun e => h0 (by rw [e]))]
    simp only [bne_dec, beq_dec, h0, decide_false, Bool.not_false, cond_true]
  simp only [bne_dec, beq_dec, h0, decide_true, Bool.not_true, cond_false]
  by_cases h1 : x.fKind = y.fKind
  case neg =>
    rw [decide_eq_false (show ¬ x = y from fun e => h1 (by rw [e]))]
    simp only [bne_dec, beq_dec, h1, decide_false, Bool.not_false, cond_true]
  simp only [bne_dec, beq_dec, h1, decide_true, Bool.not_true, cond_false]
  by_cases h2 : x.fNum = y.fNum
  case neg =>
    rw [decide_eq_false (show ¬ x = y from fun e => h2 (by rw [e]))]
    simp only [bne_dec, beq_dec, h2, decide_false, Bool.not_false, cond_true]
  simp only [bne_dec, beq_dec, h2, decide_true, Bool.not_true, cond_false]
  by_cases h3 : x.fValue = y.fValue
  case neg =>
    rw [decide_eq_false (show ¬ x = y from fun e => h3 (by rw [e]))]
    simp only [bne_dec, beq_dec, h3, decide_false, Bool.not_false, cond_true]
  simp only [bne_dec, beq_dec, h3, decide_true, Bool.not_true, cond_false]
  rw [decide_eq_true (show x = y by cases x; cases y; simp_all)]

theorem laws_eqEventS_ww_eq {l m : List Event} {b b1 : Bool} (hl : l.length ≤ 2 ^ 40) (hN : 2 ^ 40 < N) (k : Bool → Option R) : g_laws_eqEventS_ww N b b1 l m k = k (decide (l = m)) := by
  unfold g_laws_eqEventS_ww
  by_cases h : l.length = m.length
  · rw [show ((l.length : Int) != (m.length : Int)) = false by simp [h]]
    unfold c_laws_eqEventS_ww_0
    refine (eql (l_laws_eqEventS_ww_0 N b b1 l m (k false) (k true)) l m h (k false) (k true) (fun f i x y hi hx hy => ?_) (fun f => ?_) (by omega)).trans ?_
    · simp only [l_laws_eqEventS_ww_0, s_laws_eqEventS_ww_0, dec_lt hi, dec_nn, Int.toNat_natCast, elemK_some hx, elemK_some hy, dec_lt (show i < m.length by omega), laws_eqEvent_eq, wrap_next hi (by omega), Bool.and_true, cond_true]
    · simp only [l_laws_eqEventS_ww_0, s_laws_eqEventS_ww_0, dec_nlt, cond_false]
    · cases decide (l = m) <;> rfl
  · rw [show ((l.length : Int) != (m.length : Int)) = true by simp; omega]
    rw [decide_eq_false (fun e => h (by rw [e]))]
    rfl

@[simp] theorem impl_yin_eq (a lo hi : Int) (k : Bool → Option R) : g_impl_yin N a lo hi k = k (decide (a ≥ lo) && decide (a ≤ hi)) := by
  simp [g_impl_yin]

@[simp] theorem impl_yisWord_eq (a : Int) (k : Bool → Option R) : g_impl_yisWord N a k = k (decide (a ≥ 0) && decide (a < 4294967296)) := by
  simp [g_impl_yisWord]

@[simp] theorem spec_l01IsWord_eq (a : Int) (k : Bool → Option R) : g_spec_l01IsWord N a k = k (decide (a ≥ 0) && decide (a < 4294967296)) := by
  simp [g_spec_l01IsWord]

def word (n : Int) : Int := n % 4294967296

def putWord (n : Int) : ByteArray := toBytes [word n % 256, word n / 256 % 256, word n / 65536 % 256, word n / 16777216 % 256]

theorem putWord_size (n : Int) : (putWord n).size = 4 := toBytes_size _

theorem impl_PutWord_eq (n : Int) (k : ByteArray → Option R) : g_impl_PutWord N n k = k (putWord n) := by
  simp only [g_impl_PutWord, wu8, wu32, fdiv_lit _ (show (0 : Int) ≤ 256 by omega), fdiv_lit _ (show (0 : Int) ≤ 65536 by omega), fdiv_lit _ (show (0 : Int) ≤ 16777216 by omega), seg_all]
  rfl

theorem spec_l01Mod_eq {n m : Int} (hm : 0 < m) (hm2 : m ≤ 2 ^ 62) (k : Int → Option R) : g_spec_l01Mod N n m k = k (n % m) := by
  unfold g_spec_l01Mod
  obtain ⟨h1, h2⟩ := tmod_bound (n := n) hm
  rw [show (m == 0) = false by rw [beq_dec]; exact decide_eq_false (by omega), ← tmod_add (n := n) hm]
  by_cases h : n.tmod m < 0
  · rw [decide_eq_true h, if_pos h, w64 (by omega) (by omega)]; rfl
  · rw [decide_eq_false h, if_neg h]; rfl

theorem spec_Word_eq (n : Int) (k : Int → Option R) : g_spec_Word N n k = k (word n) := by
  unfold g_spec_Word
  rw [spec_l01Mod_eq N (by omega) (by omega)]
  rfl

theorem spec_PutWord_eq (n : Int) (k : ByteArray → Option R) : g_spec_PutWord N n k = k (putWord n) := by
  simp only [g_spec_PutWord, spec_Word_eq, wu8, fdiv_lit _ (show (0 : Int) ≤ 256 by omega), fdiv_lit _ (show (0 : Int) ≤ 65536 by omega), fdiv_lit _ (show (0 : Int) ≤ 16777216 by omega), seg_all]
  rfl


def wordAt (s : ByteArray) (i : Nat) : Int := bt s i + bt s (i + 1) * 256 + bt s (i + 2) * 65536 + bt s (i + 3) * 16777216

theorem wordAt_bound (s : ByteArray) (i : Nat) : 0 ≤ wordAt s i ∧ wordAt s i < 4294967296 := by
  have h0 := bt_bound s i
  have h1 := bt_bound s (i + 1)
  have h2 := bt_bound s (i + 2)
  have h3 := bt_bound s (i + 3)
  unfold wordAt
  omega

theorem spec_l01Word_eq {s : ByteArray} {i : Nat} (h : i + 4 ≤ s.size) (hs : s.size ≤ 2 ^ 60) (k : Int → Option R) : g_spec_l01Word N s (i : Int) k = k (wordAt s i) := by
  have h0 := bt_bound s i
  have h1 := bt_bound s (i + 1)
  have h2 := bt_bound s (i + 2)
  have h3 := bt_bound s (i + 3)
  have e1 : IntKind.wrap .i64 ((i : Int) + 1) = ((i + 1 : Nat) : Int) := by rw [w64 (by omega) (by omega)]; omega
  have e2 : IntKind.wrap .i64 ((i : Int) + 2) = ((i + 2 : Nat) : Int) := by rw [w64 (by omega) (by omega)]; omega
  have e3 : IntKind.wrap .i64 ((i : Int) + 3) = ((i + 3 : Nat) : Int) := by rw [w64 (by omega) (by omega)]; omega
  simp only [g_spec_l01Word, e1, e2, e3, dec_nn, dec_lt (show i < s.size by omega), dec_lt (show i + 1 < s.size by omega), dec_lt (show i + 2 < s.size by omega), dec_lt (show i + 3 < s.size by omega), Bool.and_true, cond_true, Int.toNat_natCast]
  rw [w64 (n := bt s i) (by omega) (by omega), w64 (n := bt s (i + 1)) (by omega) (by omega), w64 (n := bt s (i + 2)) (by omega) (by omega), w64 (n := bt s (i + 3)) (by omega) (by omega), w64 (n := bt s (i + 1) * 256) (by omega) (by omega), w64 (n := bt s (i + 2) * 65536) (by omega) (by omega), w64 (n := bt s (i + 3) * 16777216) (by omega) (by omega), w64 (n := bt s i + bt s (i + 1) * 256) (by omega) (by omega), w64 (n := bt s i + bt s (i + 1) * 256 + bt s (i + 2) * 65536) (by omega) (by omega), w64 (n := bt s i + bt s (i + 1) * 256 + bt s (i + 2) * 65536 + bt s (i + 3) * 16777216) (by omega) (by omega)]
  rfl

theorem or_word (a b c d : Int) (ha : 0 ≤ a ∧ a ≤ 255) (hb : 0 ≤ b ∧ b ≤ 255) (hc : 0 ≤ c ∧ c ≤ 255) (hd : 0 ≤ d ∧ d ≤ 255) :
    IntKind.wrap .i64 (((BitVec.ofInt 64 (IntKind.wrap .i64 (((BitVec.ofInt 64 (IntKind.wrap .i64 (((BitVec.ofInt 64 a ||| BitVec.ofInt 64 (b * 256)).toNat : Nat) : Int)) ||| BitVec.ofInt 64 (c * 65536)).toNat : Nat) : Int)) ||| BitVec.ofInt 64 (d * 16777216)).toNat : Nat) : Int) = a + b * 256 + c * 65536 + d * 16777216 := by
  have com : ∀ x y : Int, (BitVec.ofInt 64 x ||| BitVec.ofInt 64 y) = (BitVec.ofInt 64 y ||| BitVec.ofInt 64 x) := fun x y => BitVec.or_comm _ _
  have h1 := or_add (a := b * 256) (b := a) 8 (by omega) (by omega) (by omega) (by omega) (by omega)
  have h2 := or_add (a := c * 65536) (b := b * 256 + a) 16 (by omega) (by omega) (by omega) (by omega) (by omega)
  have h3 := or_add (a := d * 16777216) (b := c * 65536 + (b * 256 + a)) 24 (by omega) (by omega) (by omega) (by omega) (by omega)
  rw [com a, h1, com (b * 256 + a), h2, com (c * 65536 + (b * 256 + a)), h3]
  omega

theorem impl_ywordAt_eq {s : ByteArray} {i : Nat} (h : i + 4 ≤ s.size) (hs : s.size ≤ 2 ^ 60) (k : Int → Option R) : g_impl_ywordAt N s (i : Int) k = k (wordAt s i) := by
  have h0 := bt_bound s i
  have h1 := bt_bound s (i + 1)
  have h2 := bt_bound s (i + 2)
  have h3 := bt_bound s (i + 3)
  have e1 : IntKind.wrap .i64 ((i : Int) + 1) = ((i + 1 : Nat) : Int) := by rw [w64 (by omega) (by omega)]; omega
  have e2 : IntKind.wrap .i64 ((i : Int) + 2) = ((i + 2 : Nat) : Int) := by rw [w64 (by omega) (by omega)]; omega
  have e3 : IntKind.wrap .i64 ((i : Int) + 3) = ((i + 3 : Nat) : Int) := by rw [w64 (by omega) (by omega)]; omega
  simp only [g_impl_ywordAt, e1, e2, e3, dec_nn, dec_lt (show i < s.size by omega), dec_lt (show i + 1 < s.size by omega), dec_lt (show i + 2 < s.size by omega), dec_lt (show i + 3 < s.size by omega), Bool.and_true, cond_true, Int.toNat_natCast]
  rw [w64 (n := bt s i) (by omega) (by omega), w64 (n := bt s (i + 1)) (by omega) (by omega), w64 (n := bt s (i + 2)) (by omega) (by omega), w64 (n := bt s (i + 3)) (by omega) (by omega), w64 (n := bt s (i + 1) * 256) (by omega) (by omega), w64 (n := bt s (i + 2) * 65536) (by omega) (by omega), w64 (n := bt s (i + 3) * 16777216) (by omega) (by omega), or_word _ _ _ _ h0 h1 h2 h3]
  rfl

theorem rng3 {a b c : Nat} (h1 : a ≤ b) (h2 : b ≤ c) : ((decide ((0 : Int) ≤ (a : Int)) && decide ((a : Int) ≤ (b : Int))) && decide ((b : Int) ≤ (c : Int))) = true := by
  rw [decide_eq_true (show (0 : Int) ≤ (a : Int) by omega), decide_eq_true (show (a : Int) ≤ (b : Int) by omega), decide_eq_true (show (b : Int) ≤ (c : Int) by omega)]; rfl

theorem bt_extract {s : ByteArray} {a b i : Nat} (h : a + i < b) : bt (s.extract a b) i = bt s (a + i) := by
  unfold bt
  rw [ByteArray.data_extract, Array.toList_extract, List.extract_eq_drop_take, List.getD_eq_getElem?_getD, List.getD_eq_getElem?_getD, List.getElem?_take_of_lt (by omega), List.getElem?_drop]

theorem wordAt_extract {s : ByteArray} {a b i : Nat} (h : a + i + 4 ≤ b) : wordAt (s.extract a b) i = wordAt s (a + i) := by
  unfold wordAt
  rw [bt_extract (by omega), bt_extract (by omega), bt_extract (by omega), bt_extract (by omega)]
  rfl

theorem bt_append_left {s t : ByteArray} {i : Nat} (h : i < s.size) : bt (s ++ t) i = bt s i := by
  have h' : i < s.data.toList.length := by rw [Array.length_toList]; exact h
  unfold bt
  rw [ByteArray.data_append, Array.toList_append, List.getD_eq_getElem?_getD, List.getD_eq_getElem?_getD, List.getElem?_append_left h']

theorem bytes_ext {s t : ByteArray} (h : s.size = t.size) (hb : ∀ i, i < s.size → bt s i = bt t i) : s = t := by
  have hs : s.size = s.data.toList.length := by rw [Array.length_toList]; rfl
  have ht : t.size = t.data.toList.length := by rw [Array.length_toList]; rfl
  have : s.data.toList = t.data.toList := by
    apply List.ext_getElem (by omega)
    intro i h1 h2
    have := hb i (by omega)
    unfold bt at this
    rw [List.getD_eq_getElem?_getD, List.getD_eq_getElem?_getD, List.getElem?_eq_getElem h1, List.getElem?_eq_getElem h2] at this
    simp only [Option.getD_some] at this
    exact UInt8.toNat_inj.1 (by omega)
  apply ByteArray.ext
  exact Array.ext' this

theorem extract_append_left {s t : ByteArray} {n : Nat} (h : n = s.size) : (s ++ t).extract 0 n = s := by
  subst h
  refine bytes_ext (by rw [ByteArray.size_extract, ByteArray.size_append]; omega) fun i hi => ?_
  rw [ByteArray.size_extract, ByteArray.size_append] at hi
  rw [bt_extract (by omega), Nat.zero_add, bt_append_left (by omega)]

theorem ybig_eq {t : ByteArray} (hN : 2 ^ 40 < N) (k : Bool → Option R) : g_impl_ybig_w N false [t] k = k (decide ((t.size : Int) > 65536)) := by
  obtain ⟨M, rfl⟩ : ∃ M, N = M + 2 := ⟨N - 2, by omega⟩
  unfold g_impl_ybig_w c_impl_ybig_w_0
  have hx : nth [t] 0 = some t := rfl
  show cond (decide ((t.size : Int) > 65536)) (k true) (k false) = _
  cases decide ((t.size : Int) > 65536) <;> rfl

/-- An event that is refused at its place; 'p': the one ahead of it is later. -/
def evB (x : Event) (p : Bool) : Bool :=
  !((x.fKind == 1 && (decide (x.fNum ≥ 0) && decide (x.fNum ≤ 6) && x.fValue == 0)) || (x.fKind == 2 && (decide (x.fNum ≥ 0) && decide (x.fNum ≤ 2047) && (decide (x.fValue ≥ 0) && decide (x.fValue < 4294967296))))) ||
      (!(decide (x.fAt ≥ 0) && decide (x.fAt ≤ 1099511627776)) || p)

def evBad (l : List Event) (i : Nat) : Bool :=
  match nth l i with
  | none => true
  | some x => evB x (prevIs (fun y x => decide (y.fAt > x.fAt)) l i x)

def evFault (l : List Event) : Int := cond (decide (l.length > 200)) 1 (cond ((List.range l.length).any (evBad l)) 1 0)

theorem impl_EventsFault_eq {l : List Event} {b : Bool} (hN : 2 ^ 40 < N) (k : Int → Option R) : g_impl_EventsFault_w N b l k = k (evFault l) := by
  unfold g_impl_EventsFault_w evFault
  have hg : decide ((l.length : Int) > 200) = decide (l.length > 200) := decide_eq_decide.2 (by omega)
  rw [hg]
  by_cases hl : l.length > 200
  · rw [decide_eq_true hl]; rfl
  · rw [decide_eq_false hl]
    simp only [cond_false]
    unfold c_impl_EventsFault_w_0
    refine (srch (l_impl_EventsFault_w_0 N b b l.length l (k 1) (k 0)) l.length (evBad l) (k 1) (k 0) (fun f i hi => ?_) (fun f => ?_) (by omega)).trans (cond_app _ k 1 0)
    · obtain ⟨x, hx⟩ := nth_some hi
      simp only [l_impl_EventsFault_w_0, s_impl_EventsFault_w_0, dec_lt hi, dec_nn, Int.toNat_natCast, elemK_some hx, wrap_next hi (by omega), Bool.and_true, cond_true, evBad, hx]
      by_cases h0 : 0 < i
      · obtain ⟨y, hy⟩ := nth_some (l := l) (n := i - 1) (by omega)
        simp only [wrap_prev h0 (by omega), Int.toNat_natCast, elemK_some hy, prevIs, hy, dec_nn, dec_lt (show i - 1 < l.length by omega), decide_eq_true h0, decide_eq_true (show (i : Int) > 0 by omega), impl_yin_eq, impl_yisWord_eq, Bool.and_true, cond_true, cond_somes, oK_some_eq, Bool.true_and]
        refine congrArg (fun c => cond c _ _) ?_
        rw [Bool.eq_iff_iff]
        simp [evB]
        split <;> omega
      · have h00 : i = 0 := by omega
        subst h00
        simp only [prevIs, decide_eq_false (show ¬ (0 : Nat) < 0 by omega), decide_eq_false (show ¬ ((0 : Nat) : Int) > 0 by omega), impl_yin_eq, impl_yisWord_eq, cond_somes, oK_some_eq, cond_false, Bool.false_and]
        refine congrArg (fun c => cond c _ _) ?_
        rw [Bool.eq_iff_iff]
        simp [evB]
        split <;> omega
    · simp only [l_impl_EventsFault_w_0, s_impl_EventsFault_w_0, dec_nlt, cond_false]

theorem spec_EventsFault_eq {l : List Event} {b : Bool} (hN : 2 ^ 40 < N) (k : Int → Option R) : g_spec_EventsFault_w N b l k = k (evFault l) := by
  unfold g_spec_EventsFault_w evFault
  have hg : decide ((l.length : Int) > 200) = decide (l.length > 200) := decide_eq_decide.2 (by omega)
  rw [hg]
  by_cases hl : l.length > 200
  · rw [decide_eq_true hl]; rfl
  · rw [decide_eq_false hl]
    simp only [cond_false]
    unfold c_spec_EventsFault_w_0
    refine (srch (l_spec_EventsFault_w_0 N b l (k 1) (k 0)) l.length (evBad l) (k 1) (k 0) (fun f i hi => ?_) (fun f => ?_) (by omega)).trans (cond_app _ k 1 0)
    · obtain ⟨x, hx⟩ := nth_some hi
      simp only [l_spec_EventsFault_w_0, s_spec_EventsFault_w_0, dec_lt hi, dec_nn, Int.toNat_natCast, elemK_some hx, wrap_next hi (by omega), Bool.and_true, cond_true, evBad, hx]
      by_cases h0 : 0 < i
      · obtain ⟨y, hy⟩ := nth_some (l := l) (n := i - 1) (by omega)
        simp only [wrap_prev h0 (by omega), Int.toNat_natCast, elemK_some hy, prevIs, hy, dec_nn, dec_lt (show i - 1 < l.length by omega), decide_eq_true h0, decide_eq_true (show (i : Int) > 0 by omega), spec_l01IsWord_eq, Bool.and_true, cond_true, cond_somes, oK_some_eq, Bool.true_and]
        generalize l_spec_EventsFault_w_0 N b l (k 1) (k 0) f _ = z
        simp only [Bool.cond_eq_ite, evB]
        repeat' split
        all_goals first | rfl | (exfalso; simp_all <;> omega)
      · have h00 : i = 0 := by omega
        subst h00
        simp only [prevIs, decide_eq_false (show ¬ (0 : Nat) < 0 by omega), decide_eq_false (show ¬ ((0 : Nat) : Int) > 0 by omega), spec_l01IsWord_eq, cond_somes, oK_some_eq, cond_false, Bool.false_and]
        generalize l_spec_EventsFault_w_0 N b l (k 1) (k 0) f _ = z
        simp only [Bool.cond_eq_ite, evB]
        repeat' split
        all_goals first | rfl | (exfalso; simp_all <;> omega)
    · simp only [l_spec_EventsFault_w_0, s_spec_EventsFault_w_0, dec_nlt, cond_false]

def rowEvent (k : Int) : Event := ⟨k, k + 1, k + 2, k + 3⟩

def rowsEvent (k : Int) (n : Nat) : List Event := (List.range n).map fun (i : Nat) => rowEvent (k + 4 * (i : Int))

theorem nth_rowsEvent (k : Int) {n i : Nat} (h : i < n) : nth (rowsEvent k n) i = some (rowEvent (k + 4 * (i : Int))) := by
  unfold rowsEvent
  rw [nth_map, nth_eq, List.getElem?_range h]
  rfl

theorem rowsEvent_length (k : Int) (n : Nat) : (rowsEvent k n).length = n := by simp [rowsEvent]

theorem laws_markEventS_w_eq {l : List Event} {b : Bool} {k : Int} (hl : l.length ≤ 2 ^ 40) (hk : 1 ≤ k) (hk2 : k ≤ 2 ^ 50) (hN : 2 ^ 40 < N) (K : Int → List Event → Option R) : g_laws_markEventS_w N b k l K = K (k + 4 * (l.length : Int)) (rowsEvent k l.length) := by
  unfold g_laws_markEventS_w c_laws_markEventS_w_0
  obtain ⟨h1, h2, h3, h4⟩ := fold (fun f i (s : Int × List Event) => l_laws_markEventS_w_0 N b (fun n l => K n l) f s.1 i s.2) l.length (fun i s => (s.1 + 4, nset s.2 i (rowEvent s.1))) (fun i s => s.1 = k + 4 * (i : Int) ∧ s.2.length = l.length ∧ ∀ j : Nat, j < i → nth s.2 j = some (rowEvent (k + 4 * (j : Int)))) (fun s => K s.1 s.2)
    (fun f i s0 hi hs => by
      obtain ⟨s, ys⟩ := s0
      obtain ⟨hs1, hs2, hs3⟩ := hs
      dsimp only at hs1 hs2 hs3
      obtain ⟨x, hx⟩ := nth_some (l := ys) (n := i) (by omega)
      have e1 : IntKind.wrap .i64 (s + 1) = s + 1 := by rw [w64 (by omega) (by omega)]
      have e2 : IntKind.wrap .i64 (s + 1 + 1) = s + 2 := by rw [w64 (by omega) (by omega)]; omega
      have e3 : IntKind.wrap .i64 (s + 2 + 1) = s + 3 := by rw [w64 (by omega) (by omega)]; omega
      have e4 : IntKind.wrap .i64 (s + 3 + 1) = s + 4 := by rw [w64 (by omega) (by omega)]; omega
      refine ⟨?_, by dsimp only; omega, by simpa using hs2, fun j hj => ?_⟩
      · simp only [l_laws_markEventS_w_0, s_laws_markEventS_w_0, dec_lt hi, dec_lt (show i < ys.length by omega), dec_nn, Int.toNat_natCast, hs2, nset_length, elemK_some hx, elemK_nset (show i < ys.length by omega), nset_nset, blt_t hi, blt_t (show i < ys.length by omega), wrap_next hi (by omega), Bool.and_true, cond_true, e1, e2, e3, e4]
        rfl
      · dsimp only
        rw [nth_nset]
        split
        · rename_i hc; obtain ⟨rfl, _⟩ := hc; rw [hs1]
        · rename_i hc; exact hs3 j (by have : j ≠ i := fun e => hc ⟨e, by omega⟩; omega))
    (fun f s0 hs => by
      obtain ⟨s, ys⟩ := s0
      obtain ⟨hs1, hs2, hs3⟩ := hs
      dsimp only at hs2
      simp only [l_laws_markEventS_w_0, s_laws_markEventS_w_0, hs2, dec_nlt, cond_false]) (s := (k, l)) ⟨by simp, rfl, fun j hj => by omega⟩ (f := N) (by omega)
  refine h1.trans ?_
  rw [h2]
  congr 1
  refine ext_nth fun j => ?_
  rcases Nat.lt_or_ge j l.length with hj | hj
  · rw [h4 j hj, nth_rowsEvent k hj]
  · rw [nth_none (by rw [h3]; exact hj), nth_none (by rw [rowsEvent_length]; exact hj)]

theorem laws_heldEventS_w_eq {n : Nat} {b : Bool} {k : Int} (hl : n ≤ 2 ^ 40) (hk : 1 ≤ k) (hk2 : k ≤ 2 ^ 50) (hN : 2 ^ 40 < N) (K : Int → Option R) : g_laws_heldEventS_w N b k (rowsEvent k n) K = K (k + 4 * (n : Int)) := by
  unfold g_laws_heldEventS_w c_laws_heldEventS_w_0
  obtain ⟨h1, h2⟩ := fold (fun f i (s : Int) => l_laws_heldEventS_w_0 N b (rowsEvent k n) (fun _ => K (-1)) (fun n => K n) f s i) n (fun _ s => s + 4) (fun i s => s = k + 4 * (i : Int)) (fun s => K s)
    (fun f i s hi hs => by
      have hr : rowEvent (k + 4 * (i : Int)) = rowEvent s := by rw [hs]
      have hx : nth (rowsEvent k n) i = some (rowEvent s) := by rw [nth_rowsEvent k hi, hr]
      have e1 : IntKind.wrap .i64 (s + 1) = s + 1 := by rw [w64 (by omega) (by omega)]
      have e2 : IntKind.wrap .i64 (s + 1 + 1) = s + 2 := by rw [w64 (by omega) (by omega)]; omega
      have e3 : IntKind.wrap .i64 (s + 2 + 1) = s + 3 := by rw [w64 (by omega) (by omega)]; omega
      have e4 : IntKind.wrap .i64 (s + 3 + 1) = s + 4 := by rw [w64 (by omega) (by omega)]; omega
      refine ⟨?_, by omega⟩
      simp only [l_laws_heldEventS_w_0, s_laws_heldEventS_w_0, rowsEvent_length, dec_lt hi, dec_nn, Int.toNat_natCast, elemK_some hx, rowEvent, bne_self_eq_false, beq_self_eq_true, decide_true, Bool.not_true, cond_false, wrap_next hi (by omega), Bool.and_true, cond_true, e1, e2, e3, e4])
    (fun f s hs => by
      simp only [l_laws_heldEventS_w_0, s_laws_heldEventS_w_0, rowsEvent_length, dec_nlt, cond_false]) (s := k) (by simp) (f := N) (by omega)
  refine h1.trans ?_
  rw [h2]

theorem putWord_congr {a b : Int} (h : word a = word b) : putWord a = putWord b := by unfold putWord; rw [h]

/-- A fold over a list, each place going on with another state. -/
theorem foldL {T S : Type} (lp : Nat → Int → S → Option R) (l : List T) (g : S → T → S) (I : Nat → S → Prop) (k : S → Option R)
    (h : ∀ f i s x, i < l.length → nth l i = some x → I i s → lp (f + 1) (i : Int) s = lp f ((i + 1 : Nat) : Int) (g s x) ∧ I (i + 1) (g s x))
    (he : ∀ f s, I l.length s → lp (f + 1) (l.length : Int) s = k s) {s : S} (hs : I 0 s) {f : Nat} (hf : l.length < f) : lp f 0 s = k (l.foldl g s) ∧ I l.length (l.foldl g s) := by
  have := fold lp l.length (fun i s => atD l i (g s) s) I k (fun f i s hi hI => by
    obtain ⟨x, hx⟩ := nth_some hi
    rw [atD_some hx]
    exact h f i s x hi hx hI) he hs hf
  rw [foldl_atD] at this
  exact this

/-- Texts, one behind the other. -/
def catB : List ByteArray → ByteArray
  | [] => ⟨[].toArray⟩
  | x :: l => x ++ catB l

theorem ba_append_empty (x : ByteArray) : x ++ (⟨[].toArray⟩ : ByteArray) = x := by
  apply ByteArray.ext
  simp

theorem ba_empty_append (x : ByteArray) : (⟨[].toArray⟩ : ByteArray) ++ x = x := by
  apply ByteArray.ext
  simp

theorem join_flatten : ∀ xs : List (List UInt8), Lib.join xs [] = xs.flatten
  | [] => rfl
  | x :: r => by
    rw [Lib.join_cons, List.flatten_cons]
    unfold Lib.joinTail
    simp

theorem catB_toList : ∀ l : List ByteArray, (catB l).data.toList = (l.map (·.data.toList)).flatten
  | [] => rfl
  | x :: l => by
    simp only [catB, List.map_cons, List.flatten_cons, ← catB_toList l]
    simp

theorem joinB_cat (l : List ByteArray) : joinB l ⟨[].toArray⟩ = catB l := by
  unfold joinB
  apply ByteArray.ext
  apply Array.ext'
  show Lib.join (l.map (·.data.toList)) [] = _
  rw [join_flatten, catB_toList]

theorem joinOk_cat {l : List ByteArray} (h1 : l.length ≤ 2 ^ 40) (h2 : (catB l).size ≤ 2 ^ 40) : joinOk l ⟨[].toArray⟩ = true := by
  unfold joinOk
  have h3 : (Lib.join (l.map (·.data.toList)) (⟨[].toArray⟩ : ByteArray).data.toList).length = (catB l).size := by
    show (Lib.join (l.map (·.data.toList)) []).length = _
    rw [join_flatten, ← catB_toList]
    rfl
  rw [h3, ble_t (by omega), ble_t (by omega)]
  rfl

theorem catB_size : ∀ l : List ByteArray, (catB l).size = (l.map (·.size)).sum
  | [] => rfl
  | x :: l => by
    simp only [catB, ByteArray.size_append, List.map_cons, List.sum_cons, catB_size l]

theorem tdiv_nn {n m : Int} (h : 0 ≤ n) : n.tdiv m = n / m := Int.tdiv_eq_ediv_of_nonneg h

theorem tmod_nn {n m : Int} (h : 0 ≤ n) : n.tmod m = n % m := Int.tmod_eq_emod_of_nonneg h

/-- A list's fold that appends to a text. -/
theorem foldl_append {T : Type} (f : T → ByteArray) : ∀ (l : List T) (s : ByteArray), l.foldl (fun s x => s ++ f x) s = s ++ catB (l.map f)
  | [], s => by simp only [List.foldl_nil, List.map_nil, catB, ba_append_empty]
  | x :: l, s => by
    rw [List.foldl_cons, foldl_append f l, List.map_cons]
    simp only [catB, ByteArray.append_assoc]

theorem impl_yjoin_eq {l : List ByteArray} {b : Bool} (h1 : l.length ≤ 2 ^ 40) (h2 : (catB l).size ≤ 2 ^ 40) (k : ByteArray → Option R) : g_impl_yjoin_r N b l k = k (catB l) := by
  unfold g_impl_yjoin_r
  rw [joinOk_cat h1 h2, cond_true, joinB_cat]

def evNum (x : Event) : Int := IntKind.wrap .i64 (IntKind.wrap .i64 (x.fKind * 65536) + x.fNum)

def evText (x : Event) : ByteArray := catB [putWord x.fAt, putWord (x.fAt / 4294967296), putWord (evNum x), putWord x.fValue]

theorem evText_size (x : Event) : (evText x).size = 16 := by
  unfold evText
  rw [catB_size]
  simp only [List.map_cons, List.map_nil, putWord_size, List.sum_cons, List.sum_nil]
  rfl

def packEvents (l : List Event) : ByteArray := cond (evFault l != 0) ⟨[].toArray⟩ (l.foldl (fun s x => s ++ evText x) ⟨[(86 : UInt8), (69 : UInt8), (49 : UInt8), (10 : UInt8)].toArray⟩)

theorem evFault_facts {l : List Event} (h : (evFault l != 0) = false) : l.length ≤ 200 ∧ ∀ i x, nth l i = some x → 0 ≤ x.fAt ∧ x.fAt ≤ 1099511627776 := by
  unfold evFault at h
  by_cases hl : l.length > 200
  · rw [decide_eq_true hl] at h; cases h
  · rw [decide_eq_false hl, cond_false] at h
    refine ⟨by omega, fun i x hx => ?_⟩
    have hany : (List.range l.length).any (evBad l) = false := by
      cases ha : (List.range l.length).any (evBad l) with
      | false => rfl
      | true => rw [ha] at h; cases h
    have := List.any_eq_false.1 hany i (List.mem_range.2 (nth_lt hx))
    unfold evBad at this
    rw [hx] at this
    simp only [evB, Bool.or_eq_true, not_or, Bool.not_eq_true, Bool.not_eq_false', Bool.and_eq_true, decide_eq_true_eq] at this
    omega

theorem spec_l20Words_eq {l : List Int} {b : Bool} (hl : l.length ≤ 2 ^ 30) (hN : 2 ^ 40 < N) (k : ByteArray → Option R) : g_spec_l20Words_w N b l k = k (catB (l.map putWord)) := by
  unfold g_spec_l20Words_w c_spec_l20Words_w_0
  obtain ⟨h1, _⟩ := foldL (fun f i s => l_spec_l20Words_w_0 N b l (fun s2 => k s2) f s i) l (fun s x => s ++ putWord x) (fun i s => s.size = 4 * i) (fun s => k s) (fun f i s x hi hx hs => by
      simp only [l_spec_l20Words_w_0, s_spec_l20Words_w_0, dec_lt hi, dec_nn, Int.toNat_natCast, elemK_some hx, spec_PutWord_eq, putWord_size, ble_t (show s.size + 4 ≤ 9223372036854775807 by omega), wrap_next hi (by omega), Bool.and_true, cond_true]
      exact ⟨trivial, by rw [ByteArray.size_append, putWord_size]; omega⟩) (fun f s _ => by
      simp only [l_spec_l20Words_w_0, s_spec_l20Words_w_0, dec_nlt, cond_false]) (s := ⟨[].toArray⟩) rfl (f := N) (by omega)
  refine h1.trans ?_
  rw [foldl_append, ba_empty_append]

theorem spec_PackEvents_eq {l : List Event} {b : Bool} (hN : 2 ^ 40 < N) (k : ByteArray → Option R) : g_spec_PackEvents_w N b l k = k (packEvents l) := by
  unfold g_spec_PackEvents_w packEvents
  rw [spec_EventsFault_eq N hN]
  cases hb : (evFault l != 0) with
  | true => rfl
  | false =>
    obtain ⟨hl, hf⟩ := evFault_facts hb
    simp only [cond_false]
    unfold c_spec_PackEvents_w_0
    obtain ⟨h1, _⟩ := foldL (fun f i s => l_spec_PackEvents_w_0 N b l (fun s2 => k s2) f s i) l (fun s x => s ++ evText x) (fun i s => s.size = 4 + 16 * i) (fun s => k s) (fun f i s x hi hx hs => by
      obtain ⟨a0, a1⟩ := hf i x hx
      have hw := spec_l20Words_eq (R := R) N (b := false) (l := [x.fAt, Int.fdiv x.fAt 4294967296, evNum x, x.fValue]) (by simp) hN
      rw [fdiv_lit _ (by omega)] at hw
      simp only [List.map_cons, List.map_nil] at hw
      change ∀ k, g_spec_l20Words_w N false [x.fAt, x.fAt / 4294967296, evNum x, x.fValue] k = k (evText x) at hw
      simp only [l_spec_PackEvents_w_0, s_spec_PackEvents_w_0, dec_lt hi, dec_nn, Int.toNat_natCast, elemK_some hx, fdiv_lit x.fAt (show (0 : Int) ≤ 4294967296 by omega), Bool.and_true, cond_true]
      change (g_spec_l20Words_w N false [x.fAt, x.fAt / 4294967296, evNum x, x.fValue] _) = _ ∧ _
      rw [hw, evText_size, ble_t (show s.size + 16 ≤ 9223372036854775807 by omega), cond_true, wrap_next hi (by omega)]
      exact ⟨rfl, by rw [ByteArray.size_append, evText_size]; omega⟩) (fun f s _ => by
      simp only [l_spec_PackEvents_w_0, s_spec_PackEvents_w_0, dec_nlt, cond_false]) (s := ⟨[(86 : UInt8), (69 : UInt8), (49 : UInt8), (10 : UInt8)].toArray⟩) rfl (f := N) (by omega)
    exact h1

theorem impl_PackEvents_eq {l : List Event} {b : Bool} (hN : 2 ^ 40 < N) (k : ByteArray → Option R) : g_impl_PackEvents_w N b l k = k (packEvents l) := by
  unfold g_impl_PackEvents_w packEvents
  rw [impl_EventsFault_eq N hN]
  cases hb : (evFault l != 0) with
  | true => rfl
  | false =>
    obtain ⟨hl, hf⟩ := evFault_facts hb
    simp only [cond_false]
    unfold c_impl_PackEvents_w_0
    obtain ⟨h1, _⟩ := foldL (fun f i s => l_impl_PackEvents_w_0 N b l.length l (fun s6 => k s6) f s i) l (fun s x => s ++ evText x) (fun i s => s.size = 4 + 16 * i) (fun s => k s) (fun f i s x hi hx hs => by
      obtain ⟨a0, a1⟩ := hf i x hx
      have hc : catB [s, putWord x.fAt, putWord (x.fAt / 4294967296), putWord (evNum x), putWord x.fValue] = s ++ evText x := rfl
      have hsz : (s ++ evText x).size = s.size + 16 := by rw [ByteArray.size_append, evText_size]
      have hm : putWord (x.fAt % 4294967296) = putWord x.fAt := putWord_congr (by unfold word; omega)
      simp only [l_impl_PackEvents_w_0, s_impl_PackEvents_w_0, dec_lt hi, dec_nn, Int.toNat_natCast, elemK_some hx, impl_PutWord_eq, tmod_nn a0, tdiv_nn a0, hm, w64 (show -9223372036854775808 ≤ x.fAt / 4294967296 by omega) (show x.fAt / 4294967296 < 9223372036854775808 by omega), Bool.and_true, cond_true]
      change (g_impl_yjoin_r N false [s, putWord x.fAt, putWord (x.fAt / 4294967296), putWord (evNum x), putWord x.fValue] _) = _ ∧ _
      rw [impl_yjoin_eq N (by simp) (by rw [hc, hsz]; omega), hc, wrap_next hi (by omega)]
      exact ⟨rfl, by rw [hsz]; omega⟩) (fun f s _ => by
      simp only [l_impl_PackEvents_w_0, s_impl_PackEvents_w_0, dec_nlt, cond_false]) (s := ⟨[(86 : UInt8), (69 : UInt8), (49 : UInt8), (10 : UInt8)].toArray⟩) rfl (f := N) (by omega)
    exact h1

def evAt (s : ByteArray) (a : Nat) : Event := ⟨IntKind.wrap .i64 (wordAt s a + IntKind.wrap .i64 (wordAt s (a + 4) * 4294967296)), wordAt s (a + 8) / 65536, wordAt s (a + 8) % 65536, wordAt s (a + 12)⟩

def evs (s : ByteArray) : Nat → Nat → List Event
  | _, 0 => []
  | a, d + 1 => evAt s a :: evs s (a + 16) d

theorem evs_length (s : ByteArray) : ∀ (d a : Nat), (evs s a d).length = d
  | 0, _ => rfl
  | d + 1, a => by rw [evs, List.length_cons, evs_length s d]

theorem impl_UnpackEvents_go {s : ByteArray} (hs : s.size ≤ 65536) : ∀ (d f a : Nat) (b : Bool) (l : List Event), a + 16 * d = s.size → d < f → l.length + d ≤ 2 ^ 20 →
    ∃ b', ∀ kN : Bool → List Event → Option R, l_impl_UnpackEvents_0 N s kN f b (a : Int) l = kN b' (l ++ evs s a d) := by
  intro d
  induction d with
  | zero =>
    intro f a b l ha hf hl
    obtain ⟨f, rfl⟩ : ∃ j, f = j + 1 := ⟨f - 1, by omega⟩
    refine ⟨b, fun kN => ?_⟩
    simp only [l_impl_UnpackEvents_0, s_impl_UnpackEvents_0, decide_eq_false (show ¬ (a : Int) < (s.size : Int) by omega), cond_false, evs, List.append_nil]
  | succ d ih =>
    intro f a b l ha hf hl
    obtain ⟨f, rfl⟩ : ∃ j, f = j + 1 := ⟨f - 1, by omega⟩
    have e4 : IntKind.wrap .i64 ((a : Int) + 4) = ((a + 4 : Nat) : Int) := by rw [w64 (by omega) (by omega)]; omega
    have e8 : IntKind.wrap .i64 ((a : Int) + 8) = ((a + 8 : Nat) : Int) := by rw [w64 (by omega) (by omega)]; omega
    have e12 : IntKind.wrap .i64 ((a : Int) + 12) = ((a + 12 : Nat) : Int) := by rw [w64 (by omega) (by omega)]; omega
    have e16 : IntKind.wrap .i64 ((a : Int) + 16) = ((a + 16 : Nat) : Int) := by rw [w64 (by omega) (by omega)]; omega
    obtain ⟨g0, g1⟩ := wordAt_bound s (a + 8)
    obtain ⟨b', h⟩ := ih f (a + 16) (cond (Nat.beq 1 0) b false) (l ++ [evAt s a]) (by omega) (by omega) (by rw [List.length_append, List.length_singleton]; omega)
    refine ⟨b', fun kN => ?_⟩
    have h := h kN
    simp only [l_impl_UnpackEvents_0, s_impl_UnpackEvents_0, decide_eq_true (show (a : Int) < (s.size : Int) by omega), cond_true, e4, e8, e12, e16,
      impl_ywordAt_eq N (show a + 4 ≤ s.size by omega) (show s.size ≤ 2 ^ 60 by omega), impl_ywordAt_eq N (show a + 4 + 4 ≤ s.size by omega) (show s.size ≤ 2 ^ 60 by omega), impl_ywordAt_eq N (show a + 8 + 4 ≤ s.size by omega) (show s.size ≤ 2 ^ 60 by omega), impl_ywordAt_eq N (show a + 12 + 4 ≤ s.size by omega) (show s.size ≤ 2 ^ 60 by omega),
      tdiv_nn g0, tmod_nn g0, w64 (show -9223372036854775808 ≤ wordAt s (a + 8) / 65536 by omega) (show wordAt s (a + 8) / 65536 < 9223372036854775808 by omega), List.length_singleton, room (show (l.length + 1) * 32 ≤ 2 ^ 47 by omega) (show l.length + 1 ≤ 2 ^ 47 by omega)]
    rw [List.append_assoc] at h
    exact h

/-- One word that is cut off a text. -/
def wd (s : ByteArray) (a : Nat) (b : Bool) : Int × Nat × Bool := cond (b || decide (s.size < a + 4)) (0, a, true) (wordAt s a, a + 4, false)

theorem wd_le {s : ByteArray} {a : Nat} {b : Bool} (h : a ≤ s.size) : (wd s a b).2.1 ≤ s.size ∧ a ≤ (wd s a b).2.1 := by
  unfold wd
  cases b with
  | true => exact ⟨h, Nat.le_refl _⟩
  | false =>
    by_cases h1 : s.size < a + 4
    · rw [decide_eq_true h1]; exact ⟨h, Nat.le_refl _⟩
    · rw [decide_eq_false h1]; exact ⟨by show a + 4 ≤ _; omega, by show a ≤ a + 4; omega⟩

theorem spec_word_eq {s : ByteArray} {a : Nat} {b : Bool} (hs : s.size ≤ 65536) (ha : a ≤ s.size) (k : Int → Int → Bool → Option R) : g_spec_l13Cut_word_W N s (a : Int) b k = k (wd s a b).1 ((wd s a b).2.1 : Int) (wd s a b).2.2 := by
  unfold g_spec_l13Cut_word_W g_spec_l13Cut_take_W wd
  cases b with
  | true => rfl
  | false =>
    rw [w64 (n := (s.size : Int) - a) (by omega) (by omega)]
    by_cases h1 : s.size < a + 4
    · rw [decide_eq_true h1, decide_eq_true (show (4 : Int) > (s.size : Int) - a by omega)]; rfl
    · have e4 : IntKind.wrap .i64 ((a : Int) + 4) = ((a + 4 : Nat) : Int) := by rw [w64 (by omega) (by omega)]; omega
      have hsz : (s.extract a (a + 4)).size = 4 := by rw [ByteArray.size_extract]; omega
      have hne : decide (s.extract a (a + 4) = ⟨[].toArray⟩) = false := decide_eq_false fun e => by rw [e] at hsz; cases hsz
      rw [decide_eq_false h1, decide_eq_false (show ¬ (4 : Int) > (s.size : Int) - a by omega), e4, rng3 (show a ≤ a + 4 by omega) (show a + 4 ≤ s.size by omega)]
      simp only [cond_false, cond_true, oK_some_eq, Int.toNat_natCast, hne, Bool.or_self]
      have := spec_l01Word_eq N (s := s.extract a (a + 4)) (i := 0) (by omega) (by omega) (fun n2 => k n2 ((a + 4 : Nat) : Int) false)
      rw [wordAt_extract (by omega)] at this
      exact this

/-- Four words. -/
def wd4 (s : ByteArray) (a : Nat) (b : Bool) : (Int × Int × Int × Int) × Nat × Bool :=
  let r1 := wd s a b
  let r2 := wd s r1.2.1 r1.2.2
  let r3 := wd s r2.2.1 r2.2.2
  let r4 := wd s r3.2.1 r3.2.2
  ((r1.1, r2.1, r3.1, r4.1), r4.2.1, r4.2.2)

theorem spec_words_eq {s : ByteArray} {a : Nat} {b : Bool} (hs : s.size ≤ 65536) (ha : a ≤ s.size) (hN : 2 ^ 40 < N) (k : Bool → Int → Bool → List Int → Option R) :
    g_spec_l13Cut_words_W N 4 s (a : Int) b k = k false ((wd4 s a b).2.1 : Int) (wd4 s a b).2.2 [(wd4 s a b).1.1, (wd4 s a b).1.2.1, (wd4 s a b).1.2.2.1, (wd4 s a b).1.2.2.2] := by
  unfold g_spec_l13Cut_words_W c_spec_l13Cut_words_W_0 wd4
  obtain ⟨M, rfl⟩ : ∃ M, N = M + 1 + 1 + 1 + 1 + 1 := ⟨N - 5, by omega⟩
  have h1 := wd_le (b := b) ha
  have h2 := wd_le (b := (wd s a b).2.2) h1.1
  have h3 := wd_le (b := (wd s (wd s a b).2.1 (wd s a b).2.2).2.2) h2.1
  have i1 : IntKind.wrap .i64 ((0 : Int) + 1) = 1 := rfl
  have i2 : IntKind.wrap .i64 ((1 : Int) + 1) = 2 := rfl
  have i3 : IntKind.wrap .i64 ((2 : Int) + 1) = 3 := rfl
  have i4 : IntKind.wrap .i64 ((3 : Int) + 1) = 4 := rfl
  have d0 : decide ((0 : Int) < 4) = true := rfl
  have d1 : decide ((1 : Int) < 4) = true := rfl
  have d2 : decide ((2 : Int) < 4) = true := rfl
  have d3 : decide ((3 : Int) < 4) = true := rfl
  have d4 : decide ((4 : Int) < 4) = false := rfl
  have rm : ∀ n, n ≤ 10 → roomOk n 8 = true := fun n hn => room (by omega) (by omega)
  simp only [l_spec_l13Cut_words_W_0, s_spec_l13Cut_words_W_0, i1, i2, i3, i4, d0, d1, d2, d3, d4, cond_true, cond_false, List.length_nil, List.length_append, List.length_singleton, rm _ (show 0 + 1 ≤ 10 by omega), rm _ (show 0 + 1 + 1 ≤ 10 by omega), rm _ (show 0 + 1 + 1 + 1 ≤ 10 by omega), rm _ (show 0 + 1 + 1 + 1 + 1 ≤ 10 by omega)]
  rw [spec_word_eq _ hs ha, spec_word_eq _ hs h1.1, spec_word_eq _ hs h2.1, spec_word_eq _ hs h3.1]
  rfl

theorem wd4_in {s : ByteArray} {a : Nat} (h : a + 16 ≤ s.size) : wd4 s a false = ((wordAt s a, wordAt s (a + 4), wordAt s (a + 8), wordAt s (a + 12)), a + 16, false) := by
  have w : ∀ i, i + 4 ≤ s.size → wd s i false = (wordAt s i, i + 4, false) := fun i hi => by unfold wd; rw [decide_eq_false (by omega)]; rfl
  unfold wd4
  simp only [w a (by omega), w (a + 4) (by omega), w (a + 4 + 4) (by omega), w (a + 4 + 4 + 4) (by omega)]

theorem wd_true (s : ByteArray) (a : Nat) : wd s a true = (0, a, true) := rfl

theorem wd4_out {s : ByteArray} {a : Nat} (ha : a ≤ s.size) (h : s.size < a + 16) : (wd4 s a false).2.2 = true ∧ (wd4 s a false).2.1 ≤ s.size := by
  have w : ∀ i, i + 4 ≤ s.size → wd s i false = (wordAt s i, i + 4, false) := fun i hi => by unfold wd; rw [decide_eq_false (by omega)]; rfl
  have v : ∀ i, s.size < i + 4 → wd s i false = (0, i, true) := fun i hi => by unfold wd; rw [decide_eq_true (by omega)]; rfl
  unfold wd4
  by_cases h1 : a + 4 ≤ s.size
  · by_cases h2 : a + 8 ≤ s.size
    · by_cases h3 : a + 12 ≤ s.size
      · simp only [w a (by omega), w (a + 4) (by omega), w (a + 4 + 4) (by omega), v (a + 4 + 4 + 4) (by omega)]; exact ⟨trivial, h3⟩
      · simp only [w a (by omega), w (a + 4) (by omega), v (a + 4 + 4) (by omega), wd_true]; exact ⟨trivial, h2⟩
    · simp only [w a (by omega), v (a + 4) (by omega), wd_true]; exact ⟨trivial, h1⟩
  · simp only [v a (by omega), wd_true]; exact ⟨trivial, ha⟩

theorem spec_UnpackEvents_go {s : ByteArray} (hs : s.size ≤ 65536) (hN : 2 ^ 40 < N) : ∀ (d f a : Nat) (b b1 : Bool) (l : List Event), a ≤ s.size → s.size - a ≤ 16 * d → d + 1 < f → l.length + d ≤ 2 ^ 20 →
    ∃ b' L, (∀ kN : Bool → List Event → Option R, l_spec_UnpackEvents_0 N s s kN f b l (a : Int) b1 = kN b' (l ++ L)) ∧ (b1 = false → s.size - a = 16 * d → L = evs s a d) := by
  intro d
  induction d with
  | zero =>
    intro f a b b1 l ha hd hf hl
    obtain ⟨f, rfl⟩ : ∃ j, f = j + 1 := ⟨f - 1, by omega⟩
    refine ⟨b, [], fun kN => ?_, fun _ _ => rfl⟩
    simp only [l_spec_UnpackEvents_0, s_spec_UnpackEvents_0, decide_eq_false (show ¬ (a : Int) < (s.size : Int) by omega), cond_false, oK_some_eq, List.append_nil]
  | succ d ih =>
    intro f a b b1 l ha hd hf hl
    obtain ⟨f, rfl⟩ : ∃ j, f = j + 1 := ⟨f - 1, by omega⟩
    by_cases h0 : (a : Int) < (s.size : Int)
    case neg =>
      refine ⟨b, [], fun kN => ?_, fun _ h => by omega⟩
      simp only [l_spec_UnpackEvents_0, s_spec_UnpackEvents_0, decide_eq_false h0, cond_false, oK_some_eq, List.append_nil]
    cases b1 with
    | true =>
      refine ⟨b, [], fun kN => ?_, fun h => by cases h⟩
      simp only [l_spec_UnpackEvents_0, s_spec_UnpackEvents_0, decide_eq_true h0, cond_true, cond_false, Bool.not_true, oK_some_eq, List.append_nil]
    | false =>
      have t0 : ∀ x y z w : Int, decide ((0 : Int) < (([x, y, z, w].length : Nat) : Int)) = true := fun _ _ _ _ => rfl
      have t1 : ∀ x y z w : Int, decide ((1 : Int) < (([x, y, z, w].length : Nat) : Int)) = true := fun _ _ _ _ => rfl
      have t2 : ∀ x y z w : Int, decide ((2 : Int) < (([x, y, z, w].length : Nat) : Int)) = true := fun _ _ _ _ => rfl
      have t3 : ∀ x y z w : Int, decide ((3 : Int) < (([x, y, z, w].length : Nat) : Int)) = true := fun _ _ _ _ => rfl
      have n0 : ∀ (x y z w : Int) (K : Int → Option R), elemK [x, y, z, w] 0 K = K x := fun _ _ _ _ _ => rfl
      have n1 : ∀ (x y z w : Int) (K : Int → Option R), elemK [x, y, z, w] 1 K = K y := fun _ _ _ _ _ => rfl
      have n2 : ∀ (x y z w : Int) (K : Int → Option R), elemK [x, y, z, w] 2 K = K z := fun _ _ _ _ _ => rfl
      have n3 : ∀ (x y z w : Int) (K : Int → Option R), elemK [x, y, z, w] 3 K = K w := fun _ _ _ _ _ => rfl
      by_cases h16 : a + 16 ≤ s.size
      · obtain ⟨g0, g1⟩ := wordAt_bound s (a + 8)
        obtain ⟨b', L, h, hL⟩ := ih f (a + 16) (cond (Nat.beq 1 0) b false) false (l ++ [evAt s a]) (by omega) (by omega) (by omega) (by rw [List.length_append, List.length_singleton]; omega)
        refine ⟨b', evAt s a :: L, fun kN => ?_, fun _ e => by rw [hL rfl (by omega)]; rfl⟩
        have h := h kN
        rw [List.append_assoc] at h
        simp only [l_spec_UnpackEvents_0, s_spec_UnpackEvents_0, decide_eq_true h0, cond_true, Bool.not_false, oK_some_eq]
        rw [spec_words_eq N hs ha hN, wd4_in h16]
        simp only [t0, t1, t2, t3, n0, n1, n2, n3, cond_true, List.length_singleton, room (show (l.length + 1) * 32 ≤ 2 ^ 47 by omega) (show l.length + 1 ≤ 2 ^ 47 by omega), tdiv_nn g0, tmod_nn g0, w64 (show -9223372036854775808 ≤ wordAt s (a + 8) / 65536 by omega) (show wordAt s (a + 8) / 65536 < 9223372036854775808 by omega)]
        exact h
      · obtain ⟨q1, q2⟩ := wd4_out ha (show s.size < a + 16 by omega)
        obtain ⟨f, rfl⟩ : ∃ j, f = j + 1 := ⟨f - 1, by omega⟩
        refine ⟨cond (Nat.beq 1 0) b false, [⟨IntKind.wrap .i64 ((wd4 s a false).1.1 + IntKind.wrap .i64 ((wd4 s a false).1.2.1 * 4294967296)), IntKind.wrap .i64 (Int.tdiv (wd4 s a false).1.2.2.1 65536), Int.tmod (wd4 s a false).1.2.2.1 65536, (wd4 s a false).1.2.2.2⟩], fun kN => ?_, fun _ e => by omega⟩
        · simp only [l_spec_UnpackEvents_0, s_spec_UnpackEvents_0, decide_eq_true h0, cond_true, Bool.not_false, oK_some_eq]
          rw [spec_words_eq N hs ha hN, q1]
          simp only [t0, t1, t2, t3, n0, n1, n2, n3, cond_true, List.length_singleton, room (show (l.length + 1) * 32 ≤ 2 ^ 47 by omega) (show l.length + 1 ≤ 2 ^ 47 by omega), Bool.not_true, cond_somes, cond_same, oK_some_eq, cond_false]

def evPre : ByteArray := ⟨[(86 : UInt8), (69 : UInt8), (49 : UInt8), (10 : UInt8)].toArray⟩

def evTextOk (s : ByteArray) : Bool := decide (s.extract 0 4 = evPre) && (decide (s.size % 16 = 4) && decide (s.size ≤ 3204))

/-- A text that is packed. -/
theorem packEvents_form (l : List Event) : packEvents l = ⟨[].toArray⟩ ∨ (evTextOk (packEvents l) = true ∧ 4 ≤ (packEvents l).size) := by
  unfold packEvents
  cases h : (evFault l != 0) with
  | true => exact .inl rfl
  | false =>
    refine .inr ?_
    rw [cond_false, foldl_append]
    obtain ⟨h1, _⟩ := evFault_facts h
    have hsz : ∀ l : List Event, (catB (l.map evText)).size = 16 * l.length := by
      intro l
      induction l with
      | nil => rfl
      | cons x l ih => simp only [List.map_cons, catB, ByteArray.size_append, evText_size, ih, List.length_cons]; omega
    have hs : (evPre ++ catB (l.map evText)).size = 4 + 16 * l.length := by rw [ByteArray.size_append, hsz]; rfl
    unfold evTextOk
    change (decide ((evPre ++ catB (l.map evText)).extract 0 4 = evPre) && (decide ((evPre ++ catB (l.map evText)).size % 16 = 4) && decide ((evPre ++ catB (l.map evText)).size ≤ 3204))) = true ∧ 4 ≤ (evPre ++ catB (l.map evText)).size
    rw [extract_append_left (show 4 = evPre.size from rfl), hs, decide_eq_true rfl, decide_eq_true (by omega), decide_eq_true (by omega)]
    exact ⟨rfl, by omega⟩

theorem packEvents_ne {s : ByteArray} (h : evTextOk s = false) (h4 : 4 ≤ s.size) (l : List Event) : decide (packEvents l = s) = false := by
  refine decide_eq_false fun e => ?_
  rcases packEvents_form l with h1 | ⟨h1, _⟩
  · rw [h1] at e; rw [← e] at h4; exact absurd h4 (by decide)
  · rw [e, h] at h1; cases h1

/-- The events that a text tells. -/
def unpackEvents (s : ByteArray) : List Event := cond (evTextOk s && decide (packEvents (evs s 4 ((s.size - 4) / 16)) = s)) (evs s 4 ((s.size - 4) / 16)) []

theorem unpackEvents_len (s : ByteArray) : (unpackEvents s).length ≤ s.size := by
  unfold unpackEvents
  cases evTextOk s && decide (packEvents (evs s 4 ((s.size - 4) / 16)) = s) with
  | true => rw [cond_true, evs_length]; omega
  | false => exact Nat.zero_le _

theorem spec_UnpackEvents_eq {s : ByteArray} (hN : 2 ^ 40 < N) : ∃ b, ∀ (k : Bool → List Event → Option R), g_spec_UnpackEvents N s k = k b (cond (decide ((s.size : Int) > 65536) || decide (s.size < 4)) [] (unpackEvents s)) := by
  by_cases h1 : (s.size : Int) > 65536
  · refine ⟨false, fun k => ?_⟩
    unfold g_spec_UnpackEvents
    rw [decide_eq_true h1]; rfl
  by_cases h2 : s.size < 4
  · refine ⟨false, fun k => ?_⟩
    unfold g_spec_UnpackEvents
    rw [decide_eq_false h1, decide_eq_true h2, decide_eq_true (show (s.size : Int) < 4 by omega)]; rfl
  obtain ⟨d, hd, hd2⟩ : ∃ d, s.size - 4 ≤ 16 * d ∧ (evTextOk s = true → s.size = 4 + 16 * d) ∧ d ≤ 65536 := by
    by_cases hok : evTextOk s = true
    · have hok2 := hok
      unfold evTextOk at hok2
      simp only [Bool.and_eq_true, decide_eq_true_eq] at hok2
      exact ⟨s.size / 16, by omega, by omega, by omega⟩
    · exact ⟨s.size, by omega, fun e => absurd e hok, by omega⟩
  obtain ⟨b', L, h, hL⟩ := spec_UnpackEvents_go N (R := R) (s := s) (by omega) hN d N 4 false false [] (by omega) hd (by omega) (by simp; omega)
  refine ⟨cond (decide (packEvents L = s)) b' false, fun k => ?_⟩
  unfold g_spec_UnpackEvents c_spec_UnpackEvents_0 unpackEvents
  rw [decide_eq_false h1, decide_eq_false h2, decide_eq_false (show ¬ (s.size : Int) < 4 by omega), cond_false, oK_some_eq, cond_false, Bool.or_self, cond_false]
  refine (h _).trans ?_
  rw [spec_PackEvents_eq N hN, List.nil_append]
  cases hok : evTextOk s with
  | false => rw [packEvents_ne hok (by omega)]; rfl
  | true =>
    have hs := hd2.1 hok
    have := hL rfl (by omega)
    rw [show (s.size - 4) / 16 = d by omega, ← this]
    cases decide (packEvents L = s) <;> rfl

theorem hasPrefix_ev (s : ByteArray) (K : Bool → Option R) : g_strings_HasPrefix N s evPre K = K (decide (s.size ≥ 4) && decide (s.extract 0 4 = evPre)) := by
  unfold g_strings_HasPrefix g_internal_stringslite_HasPrefix
  have e : evPre.size = 4 := rfl
  rw [e]
  by_cases h4 : s.size ≥ 4
  · rw [decide_eq_true (show (s.size : Int) ≥ ((4 : Nat) : Int) by omega), decide_eq_true h4]; rfl
  · rw [decide_eq_false (show ¬ (s.size : Int) ≥ ((4 : Nat) : Int) by omega), decide_eq_false h4]; rfl

theorem impl_UnpackEvents_eq {s : ByteArray} (hN : 2 ^ 40 < N) : ∃ b, ∀ (k : Bool → List Event → Option R), g_impl_UnpackEvents N s k = k b (cond (decide ((s.size : Int) > 65536) || decide (s.size < 4)) [] (unpackEvents s)) := by
  by_cases h1 : (s.size : Int) > 65536
  · refine ⟨true, fun k => ?_⟩
    unfold g_impl_UnpackEvents
    rw [ybig_eq N hN, decide_eq_true h1]; rfl
  have ht : (decide (s.extract 0 4 = evPre) && (Int.tmod (s.size : Int) 16 == 4 && decide ((s.size : Int) ≤ 3204))) = evTextOk s := by
    unfold evTextOk
    rw [tmod_nn (by omega), show ((s.size : Int) % 16 == 4) = decide (s.size % 16 = 4) by rw [beq_dec]; congr 1; exact propext (by omega), show decide ((s.size : Int) ≤ 3204) = decide (s.size ≤ 3204) by congr 1; exact propext (by omega)]
  have e : ∀ k : Bool → List Event → Option R, g_impl_UnpackEvents N s k = cond (decide (s.size ≥ 4) && evTextOk s) (c_impl_UnpackEvents_0 N s true 4 [] fun b3 l1 => g_impl_PackEvents_w N b3 l1 fun s2 => cond (!decide (s2 = s)) (k true []) (k b3 l1)) (k true []) := by
    intro k
    unfold g_impl_UnpackEvents
    rw [ybig_eq N hN, decide_eq_false h1, cond_false]
    rw [show (⟨[(86 : UInt8), (69 : UInt8), (49 : UInt8), (10 : UInt8)].toArray⟩ : ByteArray) = evPre from rfl, hasPrefix_ev, ← ht]
    have h3 : decide ((s.size : Int) > 3204) = !decide ((s.size : Int) ≤ 3204) := by
      by_cases h : (s.size : Int) ≤ 3204
      · rw [decide_eq_true h, decide_eq_false (by omega)]; rfl
      · rw [decide_eq_false h, decide_eq_true (by omega)]; rfl
    rw [h3, show (Int.tmod (s.size : Int) 16 != 4) = !(Int.tmod (s.size : Int) 16 == 4) from rfl]
    cases decide (s.size ≥ 4) <;> cases decide (s.extract 0 4 = evPre) <;> cases (Int.tmod (s.size : Int) 16 == 4) <;> cases decide ((s.size : Int) ≤ 3204) <;> rfl
  by_cases h2 : s.size < 4
  · refine ⟨true, fun k => ?_⟩
    rw [e, decide_eq_true h2, decide_eq_false (show ¬ s.size ≥ 4 by omega), Bool.or_true]; rfl
  rw [decide_eq_false h1, decide_eq_false h2, Bool.or_self]
  cases hok : evTextOk s with
  | false =>
    refine ⟨true, fun k => ?_⟩
    rw [e, hok, Bool.and_false]
    unfold unpackEvents
    rw [hok]
    rfl
  | true =>
    have hok2 := hok
    unfold evTextOk at hok2
    simp only [Bool.and_eq_true, decide_eq_true_eq] at hok2
    obtain ⟨d, hd⟩ : ∃ d, s.size = 4 + 16 * d := ⟨s.size / 16, by omega⟩
    obtain ⟨b', h⟩ := impl_UnpackEvents_go N (R := R) (s := s) (by omega) d N 4 true [] (by omega) (by omega) (by simp; omega)
    refine ⟨cond (decide (packEvents (evs s 4 d) = s)) b' true, fun k => ?_⟩
    rw [e, hok, decide_eq_true (show s.size ≥ 4 by omega)]
    unfold unpackEvents c_impl_UnpackEvents_0
    rw [hok, show (s.size - 4) / 16 = d by omega]
    refine (h _).trans ?_
    rw [impl_PackEvents_eq N hN, List.nil_append]
    cases decide (packEvents (evs s 4 d) = s) <;> rfl

theorem law_UnpackEvents {s : ByteArray} (hN : 2 ^ 40 < N) (k : Bool → Option R) : g_laws_FnExactUnpackEvents N s k = k true := by
  unfold g_laws_FnExactUnpackEvents
  by_cases h : (s.size : Int) > 1048576
  · rw [decide_eq_true h]; rfl
  rw [decide_eq_false h, cond_false]
  obtain ⟨b, hS⟩ := spec_UnpackEvents_eq N (R := R) (s := s) hN
  obtain ⟨b1, hI⟩ := impl_UnpackEvents_eq N (R := R) (s := s) hN
  obtain ⟨L, hL⟩ : ∃ L, cond (decide ((s.size : Int) > 65536) || decide (s.size < 4)) [] (unpackEvents s) = L := ⟨_, rfl⟩
  have hlen : L.length ≤ 2 ^ 30 := by
    rw [← hL]
    have := unpackEvents_len s
    cases decide ((s.size : Int) > 65536) || decide (s.size < 4) with
    | true => exact Nat.zero_le _
    | false => rw [cond_false]; omega
  rw [hL] at hS hI
  simp only [hS, hI, laws_eqEventS_ww_eq N (show L.length ≤ 2 ^ 40 by omega) hN, decide_true, Bool.not_true, cond_false]
  rw [laws_markEventS_w_eq N (by omega) (by omega) (by omega) hN, laws_heldEventS_w_eq N (by omega) (by omega) (by omega) hN]
  simp only [laws_heldEventS_w_eq N (show L.length ≤ 2 ^ 40 by omega) (show (1 : Int) ≤ 1 by omega) (show (1 : Int) ≤ 2 ^ 50 by omega) hN]
  have hq : decide (1 + 4 * (L.length : Int) < 0) = false := decide_eq_false (by omega)
  have hr : (1 + 4 * (L.length : Int) != 1 + 4 * (L.length : Int)) = false := by simp
  simp only [hq, hr, cond_false]

end
end Go.Sa
