import Derived.Test.YtflmjaehnbnjnaaW9
set_option linter.all false
namespace Go.Sa
open Go Go.Eng
section
variable {R : Type} (N : Nat)
variable {R : Type}

@[simp] theorem impl_yin_eq (a lo hi : Int) (k : Bool → Option R) : g_impl_yin N a lo hi k = k (decide (a ≥ lo) && decide (a ≤ hi)) := by
  simp [g_impl_yin]

def word (n : Int) : Int := n % 4294967296

def putWord (n : Int) : ByteArray := toBytes [word n % 256, word n / 256 % 256, word n / 65536 % 256, word n / 16777216 % 256]

theorem putWord_size (n : Int) : (putWord n).size = 4 := toBytes_size _

theorem spec_l01Mod_eq {n m : Int} (hm : 0 < m) (hm2 : m ≤ 2 ^ 62) (k : Int → Option R) : g_spec_l01Mod N n m k = k (n % m) := by
  unfold g_spec_l01Mod
  obtain ⟨h1, h2⟩ := tmod_bound (n := n) hm
  rw [show (m == 0) = false by rw [beq_dec]; exact decide_eq_false (by omega), ← tmod_add (n := n) hm]
  by_cases h : n.tmod m < 0
  · rw [decide_eq_true h, if_pos h, w64 (by omega) (by omega)]; rfl
  · rw [decide_eq_false h, if_neg h]; rfl

theorem spec_Word_eq (n : Int) (k : Int → Option R) : g_spec_Word N n k = k (word n) := by
  unfold g_spec_Word
  rw [spec_l01Mod_eq N (by omega) (by omega)]
  rfl

theorem spec_PutWord_eq (n : Int) (k : ByteArray → Option R) : g_spec_PutWord N n k = k (putWord n) := by
  simp only [g_spec_PutWord, spec_Word_eq, Go.Eng.wu8, fdiv_lit _ (show (0 : Int) ≤ 256 by omega), fdiv_lit _ (show (0 : Int) ≤ 65536 by omega), fdiv_lit _ (show (0 : Int) ≤ 16777216 by omega), seg_all]
  rfl


def wordAt (s : ByteArray) (i : Nat) : Int := bt s i + bt s (i + 1) * 256 + bt s (i + 2) * 65536 + bt s (i + 3) * 16777216

theorem wordAt_bound (s : ByteArray) (i : Nat) : 0 ≤ wordAt s i ∧ wordAt s i < 4294967296 := by
  have h0 := bt_bound s i
  have h1 := bt_bound s (i + 1)
  have h2 := bt_bound s (i + 2)
  have h3 := bt_bound s (i + 3)
  unfold wordAt
  omega

theorem spec_l01Word_eq {s : ByteArray} {i : Nat} (h : i + 4 ≤ s.size) (hs : s.size ≤ 2 ^ 60) (k : Int → Option R) : g_spec_l01Word N s (i : Int) k = k (wordAt s i) := by
  have h0 := bt_bound s i
  have h1 := bt_bound s (i + 1)
  have h2 := bt_bound s (i + 2)
  have h3 := bt_bound s (i + 3)
  have e1 : IntKind.wrap .i64 ((i : Int) + 1) = ((i + 1 : Nat) : Int) := by rw [w64 (by omega) (by omega)]; omega
  have e2 : IntKind.wrap .i64 ((i : Int) + 2) = ((i + 2 : Nat) : Int) := by rw [w64 (by omega) (by omega)]; omega
  have e3 : IntKind.wrap .i64 ((i : Int) + 3) = ((i + 3 : Nat) : Int) := by rw [w64 (by omega) (by omega)]; omega
  simp only [g_spec_l01Word, e1, e2, e3, dec_nn, dec_lt (show i < s.size by omega), dec_lt (show i + 1 < s.size by omega), dec_lt (show i + 2 < s.size by omega), dec_lt (show i + 3 < s.size by omega), Bool.and_true, cond_true, Int.toNat_natCast]
  rw [w64 (n := bt s i) (by omega) (by omega), w64 (n := bt s (i + 1)) (by omega) (by omega), w64 (n := bt s (i + 2)) (by omega) (by omega), w64 (n := bt s (i + 3)) (by omega) (by omega), w64 (n := bt s (i + 1) * 256) (by omega) (by omega), w64 (n := bt s (i + 2) * 65536) (by omega) (by omega), w64 (n := bt s (i + 3) * 16777216) (by omega) (by omega), w64 (n := bt s i + bt s (i + 1) * 256) (by omega) (by omega), w64 (n := bt s i + bt s (i + 1) * 256 + bt s (i + 2) * 65536) (by omega) (by omega), w64 (n := bt s i + bt s (i + 1) * 256 + bt s (i + 2) * 65536 + bt s (i + 3) * 16777216) (by omega) (by omega)]
  rfl

theorem or_word (a b c d : Int) (ha : 0 ≤ a ∧ a ≤ 255) (hb : 0 ≤ b ∧ b ≤ 255) (hc : 0 ≤ c ∧ c ≤ 255) (hd : 0 ≤ d ∧ d ≤ 255) :
    IntKind.wrap .i64 (((BitVec.ofInt 64 (IntKind.wrap .i64 (((BitVec.ofInt 64 (IntKind.wrap .i64 (((BitVec.ofInt 64 a ||| BitVec.ofInt 64 (b * 256)).toNat : Nat) : Int)) ||| BitVec.ofInt 64 (c * 65536)).toNat : Nat) : Int)) ||| BitVec.ofInt 64 (d * 16777216)).toNat : Nat) : Int) = a + b * 256 + c * 65536 + d * 16777216 := by
  have com : ∀ x y : Int, (BitVec.ofInt 64 x ||| BitVec.ofInt 64 y) = (BitVec.ofInt 64 y ||| BitVec.ofInt 64 x) := fun x y => BitVec.or_comm _ _
  have h1 := or_add (a := b * 256) (b := a) 8 (by omega) (by omega) (by omega) (by omega) (by omega)
  have h2 := or_add (a := c * 65536) (b := b * 256 + a) 16 (by omega) (by omega) (by omega) (by omega) (by omega)
  have h3 := or_add (a := d * 16777216) (b := c * 65536 + (b * 256 + a)) 24 (by omega) (by omega) (by omega) (by omega) (by omega)
  rw [com a, h1, com (b * 256 + a), h2, com (c * 65536 + (b * 256 + a)), h3]
  omega

def memOk (s : ByteArray) : Bool := decide ((s.size : Int) ≥ 256) && (decide ((s.size : Int) ≤ 65536) && (Int.tmod (s.size : Int) 256 == 0))

theorem impl_ymemOk_eq (s : ByteArray) (k : Bool → Option R) : g_impl_ymemOk N s k = k (memOk s) := by
  unfold g_impl_ymemOk memOk
  cases decide ((s.size : Int) ≥ 256) <;> cases decide ((s.size : Int) ≤ 65536) <;> rfl

theorem spec_MemFault_eq (s : ByteArray) (k : Int → Option R) : g_spec_MemFault N s k = k (cond (memOk s) 0 1) := by
  have e : ((s.size : Int) == 0 || (Int.tmod (s.size : Int) 256 != 0 || decide ((s.size : Int) > 65536))) = !memOk s := by
    unfold memOk
    rw [Int.tmod_eq_emod_of_nonneg (by omega), Bool.eq_iff_iff]
    have h0 : (0 : Int) ≤ (s.size : Int) := by omega
    generalize (s.size : Int) = m at h0 ⊢
    simp
    omega
  unfold g_spec_MemFault
  simp only [cond_somes, oK_some_eq, Bool.cond_true_left, e]
  cases memOk s <;> rfl

theorem ofBytes_length (s : ByteArray) : (ofBytes s).length = s.size := by
  unfold ofBytes
  rw [List.length_map, Array.length_toList]
  rfl

theorem nth_ofBytes {s : ByteArray} {i : Nat} (h : i < s.size) : nth (ofBytes s) i = some (bt s i) := by
  have h' : i < s.data.toList.length := by rw [Array.length_toList]; exact h
  unfold ofBytes bt
  rw [nth_eq, List.getElem?_map, List.getElem?_eq_getElem h', List.getD_eq_getElem?_getD, List.getElem?_eq_getElem h']
  rfl

theorem toBytes_ofBytes (s : ByteArray) : toBytes (ofBytes s) = s := by
  obtain ⟨⟨l⟩⟩ := s
  unfold toBytes ofBytes
  simp only [List.map_map]
  have : (l.map ((fun x : Int => UInt8.ofNat x.toNat) ∘ fun c : UInt8 => (c.toNat : Int))) = l := by
    rw [List.map_congr_left (g := id) (fun c _ => by simp), List.map_id]
  rw [this]

theorem ofBytes_append (s t : ByteArray) : ofBytes (s ++ t) = ofBytes s ++ ofBytes t := by
  obtain ⟨⟨a⟩⟩ := s
  obtain ⟨⟨b⟩⟩ := t
  have e : (⟨⟨a⟩⟩ ++ ⟨⟨b⟩⟩ : ByteArray).data = (⟨a⟩ ++ ⟨b⟩ : Array UInt8) := ByteArray.data_append
  unfold ofBytes
  rw [e]
  simp

theorem ofBytes_extract (s : ByteArray) (i j : Nat) : ofBytes (s.extract i j) = ((ofBytes s).take j).drop i := by
  unfold ofBytes
  rw [ByteArray.data_extract, Array.toList_extract, List.extract_eq_drop_take, ← List.map_take, ← List.map_drop, List.drop_take]

theorem ofBytes_toBytes {l : List Int} (h : ∀ x ∈ l, 0 ≤ x ∧ x < 256) : ofBytes (toBytes l) = l := by
  unfold ofBytes toBytes
  simp only [List.map_map]
  rw [List.map_congr_left (g := id) (fun x hx => ?_), List.map_id]
  have := h x hx
  simp
  omega

theorem ofBytes_putWord (v : Int) : ofBytes (putWord v) = [v % 256, v / 256 % 256, v / 65536 % 256, v / 16777216 % 256] := by
  unfold putWord
  rw [ofBytes_toBytes (by intro x hx; simp only [List.mem_cons, List.not_mem_nil, or_false] at hx; omega)]
  unfold word
  simp only [List.cons.injEq, and_true]
  omega

def setWord (s : ByteArray) (i : Nat) (v : Int) : ByteArray := (s.extract 0 i ++ putWord v) ++ s.extract (i + 4) s.size

theorem ofBytes_setWord {s : ByteArray} {i : Nat} (h : i + 4 ≤ s.size) (v : Int) :
    nset (nset (nset (nset (ofBytes s) i (v % 256)) (i + 1) (v / 256 % 256)) (i + 2) (v / 65536 % 256)) (i + 3) (v / 16777216 % 256) = ofBytes (setWord s i v) := by
  have hl := ofBytes_length s
  unfold setWord
  rw [ofBytes_append, ofBytes_append, ofBytes_extract, ofBytes_extract, ofBytes_putWord, ← hl]
  rw [← hl] at h
  generalize ofBytes s = l at h ⊢
  simp only [List.drop_zero, List.take_length]
  apply List.ext_getElem?
  intro j
  rw [← nth_eq]
  simp only [nth_nset, nset_length]
  rw [List.append_assoc, List.getElem?_append, List.getElem?_append]
  simp only [List.length_take, List.length_cons, List.length_nil, Nat.min_eq_left (show i ≤ l.length by omega)]
  by_cases h0 : j < i
  · rw [if_neg (by omega), if_neg (by omega), if_neg (by omega), if_neg (by omega), if_pos h0, List.getElem?_take_of_lt h0, nth_eq]
  · rw [if_neg h0]
    by_cases h4 : j - i < 0 + 1 + 1 + 1 + 1
    · rw [if_pos h4]
      obtain ⟨d, rfl⟩ : ∃ d, j = i + d := ⟨j - i, by omega⟩
      rw [show i + d - i = d by omega] at h4 ⊢
      match d, h4 with
      | 0, _ => rw [if_neg (by omega), if_neg (by omega), if_neg (by omega), if_pos (by omega)]; rfl
      | 1, _ => rw [if_neg (by omega), if_neg (by omega), if_pos (by omega)]; rfl
      | 2, _ => rw [if_neg (by omega), if_pos (by omega)]; rfl
      | 3, _ => rw [if_pos (by omega)]; rfl
    · rw [if_neg h4, if_neg (by omega), if_neg (by omega), if_neg (by omega), if_neg (by omega), List.getElem?_drop, nth_eq]
      congr 1
      omega

theorem setWord_size {s : ByteArray} {i : Nat} (h : i + 4 ≤ s.size) (v : Int) : (setWord s i v).size = s.size := by
  unfold setWord
  rw [ByteArray.size_append, ByteArray.size_append, ByteArray.size_extract, ByteArray.size_extract, putWord_size]
  omega


theorem bt_extract {s : ByteArray} {a b i : Nat} (h : a + i < b) : bt (s.extract a b) i = bt s (a + i) := by
  unfold bt
  rw [ByteArray.data_extract, Array.toList_extract, List.extract_eq_drop_take, List.getD_eq_getElem?_getD, List.getD_eq_getElem?_getD, List.getElem?_take_of_lt (by omega), List.getElem?_drop]

theorem bt_append_left {s t : ByteArray} {i : Nat} (h : i < s.size) : bt (s ++ t) i = bt s i := by
  have h' : i < s.data.toList.length := by rw [Array.length_toList]; exact h
  unfold bt
  rw [ByteArray.data_append, Array.toList_append, List.getD_eq_getElem?_getD, List.getD_eq_getElem?_getD, List.getElem?_append_left h']

theorem bt_append_right {s t : ByteArray} (i : Nat) : bt (s ++ t) (s.size + i) = bt t i := by
  have h' : s.size = s.data.toList.length := by rw [Array.length_toList]; rfl
  unfold bt
  rw [ByteArray.data_append, Array.toList_append, List.getD_eq_getElem?_getD, List.getD_eq_getElem?_getD, List.getElem?_append_right (by omega), h', Nat.add_sub_cancel_left]

theorem bytes_ext {s t : ByteArray} (h : s.size = t.size) (hb : ∀ i, i < s.size → bt s i = bt t i) : s = t := by
  have hs : s.size = s.data.toList.length := by rw [Array.length_toList]; rfl
  have ht : t.size = t.data.toList.length := by rw [Array.length_toList]; rfl
  have : s.data.toList = t.data.toList := by
    apply List.ext_getElem (by omega)
    intro i h1 h2
    have := hb i (by omega)
    unfold bt at this
    rw [List.getD_eq_getElem?_getD, List.getD_eq_getElem?_getD, List.getElem?_eq_getElem h1, List.getElem?_eq_getElem h2] at this
    simp only [Option.getD_some] at this
    exact UInt8.toNat_inj.1 (by omega)
  apply ByteArray.ext
  exact Array.ext' this

theorem toBytes_all (s : ByteArray) : toBytes (seg (ofBytes s) 0 (ofBytes s).length) = s := by rw [seg_all, toBytes_ofBytes]

theorem tdiv_nn {n m : Int} (h : 0 ≤ n) : n.tdiv m = n / m := Int.tdiv_eq_ediv_of_nonneg h

theorem tmod_nn {n m : Int} (h : 0 ≤ n) : n.tmod m = n % m := Int.tmod_eq_emod_of_nonneg h

theorem src_n_shape (n : Int) (b : Bool) (p m z : Int) (l : List Int) : ∃ M : Int, ∀ k : Int → Int → Int → Option R, g_spec_l01Src_n_Wr N n b p m z l k = cond (decide (n ≤ 1)) (k 0 p m)
    (cond (decide (p < (l.length : Int))) (cond (decide (0 ≤ p) && decide (p < (l.length : Int))) (elemK l p.toNat fun x => cond (IntKind.wrap .u64 n == 0) none (k (IntKind.wrap .i64 (Int.tmod (IntKind.wrap .u64 (IntKind.wrap .u64 x + Int.fdiv M 1048576)) (IntKind.wrap .u64 n))) (IntKind.wrap .i64 (p + 1)) M)) none)
      (cond (IntKind.wrap .u64 n == 0) none (k (IntKind.wrap .i64 (Int.tmod (IntKind.wrap .u64 (0 + Int.fdiv M 1048576)) (IntKind.wrap .u64 n))) p M))) := ⟨_, fun _ => rfl⟩

theorem wu64_nn (n : Int) : 0 ≤ IntKind.wrap .u64 n := by
  unfold IntKind.wrap
  have hb : (2 : Int) ^ IntKind.u64.bits = 18446744073709551616 := by decide
  have hs : IntKind.u64.signed = false := rfl
  rw [hb, hs]
  simp only [Bool.false_and]
  rw [if_neg (by decide)]
  omega

/-- A drawn number. -/
theorem src_n {n : Int} {b : Bool} {p m z : Int} {l : List Int} (hn : n ≤ 2 ^ 62) (hl : l.length ≤ 2 ^ 30) (hp : 0 ≤ p ∧ p ≤ 2 ^ 40) :
    ∃ v p' m' : Int, 0 ≤ v ∧ (1 < n → v < n) ∧ (n ≤ 1 → v = 0) ∧ (0 ≤ p' ∧ p' ≤ 2 ^ 40) ∧ ∀ k : Int → Int → Int → Option R, g_spec_l01Src_n_Wr N n b p m z l k = k v p' m' := by
  obtain ⟨M, hM⟩ := src_n_shape (R := R) N n b p m z l
  by_cases h1 : n ≤ 1
  · exact ⟨0, p, m, Int.le_refl 0, fun h => by omega, fun _ => rfl, hp, fun k => by rw [hM, decide_eq_true h1, cond_true]⟩
  have hw : IntKind.wrap .u64 n = n := wu64 (by omega) (by omega)
  have h0 : (IntKind.wrap .u64 n == 0) = false := by rw [hw, beq_dec]; exact decide_eq_false (by omega)
  have key : ∀ X : Int, IntKind.wrap .i64 (Int.tmod (IntKind.wrap .u64 X) (IntKind.wrap .u64 n)) = IntKind.wrap .u64 X % n := by
    intro X
    have := wu64_nn X
    have h2 := Int.emod_nonneg (IntKind.wrap .u64 X) (show n ≠ 0 by omega)
    have h3 := Int.emod_lt_of_pos (IntKind.wrap .u64 X) (show 0 < n by omega)
    rw [hw, tmod_nn this, w64 (by omega) (by omega)]
  have bnd : ∀ X : Int, 0 ≤ IntKind.wrap .u64 X % n ∧ IntKind.wrap .u64 X % n < n := fun X => ⟨Int.emod_nonneg _ (by omega), Int.emod_lt_of_pos _ (by omega)⟩
  by_cases h2 : p < (l.length : Int)
  · obtain ⟨i, rfl⟩ := Int.eq_ofNat_of_zero_le hp.1
    obtain ⟨x, hx⟩ := nth_some (l := l) (n := i) (by omega)
    obtain ⟨b1, b2⟩ := bnd (IntKind.wrap .u64 x + Int.fdiv M 1048576)
    refine ⟨_, ((i + 1 : Nat) : Int), M, b1, fun _ => b2, fun h => by omega, by omega, fun k => ?_⟩
    rw [hM, decide_eq_false h1, cond_false, decide_eq_true h2, cond_true, dec_nn, Bool.and_self, cond_true, Int.toNat_natCast, elemK_some hx, h0, cond_false, key, w64 (n := (i : Int) + 1) (by omega) (by omega)]
    rfl
  · obtain ⟨b1, b2⟩ := bnd (0 + Int.fdiv M 1048576)
    exact ⟨_, p, M, b1, fun _ => b2, fun h => by omega, hp, fun k => by rw [hM, decide_eq_false h1, cond_false, decide_eq_false h2, cond_false, h0, cond_false, key]⟩

theorem src_one {n : Int} {b : Bool} {p m z : Int} {l : List Int} (hn : n ≤ 2 ^ 62) (hl : l.length ≤ 2 ^ 30) (hp : 0 ≤ p ∧ p ≤ 2 ^ 40) :
    ∃ (v : Bool) (p' m' : Int), (0 ≤ p' ∧ p' ≤ 2 ^ 40) ∧ ∀ k : Bool → Int → Int → Option R, g_spec_l01Src_one_Wr N n b p m z l k = k v p' m' := by
  obtain ⟨v, p', m', _, _, _, h, hk⟩ := src_n (R := R) N (b := b) (m := m) (z := z) hn hl hp
  exact ⟨_, p', m', h, fun k => by unfold g_spec_l01Src_one_Wr; rw [hk]⟩

/-- One of so many that are listed. -/
theorem pick_lit {T : Type} {L : List T} {v : Int} (h0 : 0 ≤ v) (h1 : v < (L.length : Int)) : ∃ x, x ∈ L ∧ ∀ K : T → Option R, elemK L v.toNat K = K x := by
  obtain ⟨i, rfl⟩ := Int.eq_ofNat_of_zero_le h0
  obtain ⟨x, hx⟩ := nth_some (l := L) (n := i) (by omega)
  exact ⟨x, nth_mem hx, fun K => by rw [Int.toNat_natCast, elemK_some hx]⟩

theorem in_rng {v n : Int} (h0 : 0 ≤ v) (h1 : v < n) : (decide (0 ≤ v) && decide (v < n)) = true := by rw [decide_eq_true h0, decide_eq_true h1]; rfl

theorem src_go {b1 b2 : Bool} {n1 n3 : Int} {l : List Int} (hl : l.length ≤ 2 ^ 30) : ∀ (d f i : Nat) (m : Int), i + d = l.length → d < f → ∃ m' : Int, ∀ kN : Int → Option R, l_spec_l01Source_r_0 N b1 l b2 n1 n3 kN f (i : Int) m = kN m' := by
  intro d
  induction d with
  | zero =>
    intro f i m hi hf
    obtain ⟨f, rfl⟩ : ∃ j, f = j + 1 := ⟨f - 1, by omega⟩
    refine ⟨m, fun kN => ?_⟩
    rw [l_spec_l01Source_r_0, s_spec_l01Source_r_0, decide_eq_false (show ¬ (i : Int) < (l.length : Int) by omega)]
    rfl
  | succ d ih =>
    intro f i m hi hf
    obtain ⟨f, rfl⟩ : ∃ j, f = j + 1 := ⟨f - 1, by omega⟩
    by_cases h : (i : Int) < 64
    · obtain ⟨x, hx⟩ := nth_some (l := l) (n := i) (by omega)
      have hlt : i < l.length := by omega
      obtain ⟨m', hm⟩ := ih f (i + 1) (IntKind.wrap .u64 ((IntKind.wrap .u64 (((BitVec.toNat ((BitVec.ofInt 64 m) ^^^ (BitVec.ofInt 64 (IntKind.wrap .u64 x)))) : Nat) : Int)) * (1099511628211 : Int))) (by omega) (by omega)
      refine ⟨m', fun kN => ?_⟩
      rw [l_spec_l01Source_r_0, s_spec_l01Source_r_0, dec_lt hlt, cond_true, oK_some_eq, decide_eq_true h, cond_true, dec_nn, Bool.and_self, cond_true, Int.toNat_natCast, elemK_some hx, wrap_next hlt (by omega)]
      exact hm kN
    · refine ⟨m, fun kN => ?_⟩
      rw [l_spec_l01Source_r_0, s_spec_l01Source_r_0, decide_eq_true (show (i : Int) < (l.length : Int) by omega), cond_true, oK_some_eq, decide_eq_false h, cond_false]

/-- A source. -/
theorem src_of {b : Bool} {l : List Int} (hl : l.length ≤ 2 ^ 30) (hN : 2 ^ 40 < N) : ∃ m z : Int, 0 ≤ z ∧ z ≤ 12 ∧ ∀ k : Int → Int → Option R, g_spec_l01Source_r N b l k = k m z := by
  obtain ⟨m, hm⟩ := src_go (R := R) N (b1 := b) (b2 := b) (n1 := 0) (n3 := 0) hl l.length N 0 88172645463325252 (by omega) (by omega)
  by_cases h : (l.length : Int) > 12
  · refine ⟨m, 12, by omega, by omega, fun k => ?_⟩
    unfold g_spec_l01Source_r c_spec_l01Source_r_0
    refine (hm _).trans ?_
    rw [decide_eq_true h, cond_true]
  · refine ⟨m, l.length, by omega, by omega, fun k => ?_⟩
    unfold g_spec_l01Source_r c_spec_l01Source_r_0
    refine (hm _).trans ?_
    rw [decide_eq_false h, cond_false]

theorem maps_leaf {b1 : Bool} {n8 : Int} {L : List PageMap} (hL : L.length ≤ 100) (x : PageMap) (p m : Int) (ag : Bool → Int → Int → Int → List PageMap → Option R) :
    cond (roomOk (L.length + List.length [x]) 32) (ag (cond (Nat.beq (List.length [x]) 0) b1 false) (IntKind.wrap .i64 (n8 - 1)) p m (L ++ [x])) none = ag false (IntKind.wrap .i64 (n8 - 1)) p m (L ++ [x]) := by
  rw [List.length_singleton, room (by omega) (by omega), cond_true]
  rfl

theorem maps_step {n7 n11 n8 p m : Int} {b1 b2 b3 : Bool} {l1 l3 : List Int} {L : List PageMap} (h7 : n7 ≤ 2 ^ 62) (h3 : l3.length = 6) (hl : l1.length ≤ 2 ^ 30) (h8 : 0 < n8) (hL : L.length ≤ 100) (hp : 0 ≤ p ∧ p ≤ 2 ^ 40) :
    ∃ (x : PageMap) (p' m' : Int), (0 ≤ p' ∧ p' ≤ 2 ^ 40) ∧ ∀ (ag : Bool → Int → Int → Int → List PageMap → Option R) (kN : Bool → Int → Int → List PageMap → Option R),
      s_spec_l01Src_maps_Wr_0 N n7 b2 b3 n11 l1 l3 b1 n8 p m L ag kN = ag false (IntKind.wrap .i64 (n8 - 1)) p' m' (L ++ [x]) := by
  obtain ⟨v1, p1, m1, a0, a1, _, hp1, e1⟩ := src_n (R := R) N (n := 8) (b := b3) (m := m) (z := n11) (by omega) hl hp
  have a2 := a1 (by omega)
  obtain ⟨x, _, hk1⟩ := pick_lit (R := R) (L := [(0 : Int), (1 : Int), (2 : Int), (31 : Int), (32 : Int), (33 : Int), (64 : Int), (1023 : Int)]) a0 (by simpa using a2)
  obtain ⟨v2, p2, m2, _, _, _, hp2, e2⟩ := src_n (R := R) N (n := n7) (b := b3) (m := m1) (z := n11) h7 hl hp1
  obtain ⟨v3, p3, m3, c0, c1, _, hp3, e3⟩ := src_n (R := R) N (n := 6) (b := b3) (m := m2) (z := n11) (by omega) hl hp2
  have c2 : v3 < (l3.length : Int) := by have := c1 (by omega); omega
  obtain ⟨x1, _, hk3⟩ := pick_lit (R := R) (L := l3) c0 c2
  obtain ⟨b4, p4, m4, hp4, e4⟩ := src_one (R := R) N (n := 5) (b := b3) (m := m3) (z := n11) (by omega) hl hp3
  cases b4 with
  | true =>
    obtain ⟨v5, p5, m5, _, _, _, hp5, e5⟩ := src_n (R := R) N (n := 4) (b := b3) (m := m4) (z := n11) (by omega) hl hp4
    obtain ⟨v6, p6, m6, _, _, _, hp6, e6⟩ := src_n (R := R) N (n := 2) (b := b3) (m := m5) (z := n11) (by omega) hl hp5
    obtain ⟨v7, p7, m7, d0, d1, _, hp7, e7⟩ := src_n (R := R) N (n := 6) (b := b3) (m := m6) (z := n11) (by omega) hl hp6
    have d2 : v7 < (l3.length : Int) := by have := d1 (by omega); omega
    obtain ⟨x2, _, hk7⟩ := pick_lit (R := R) (L := l3) d0 d2
    obtain ⟨b8, p8, m8, hp8, e8⟩ := src_one (R := R) N (n := 20) (b := b3) (m := m7) (z := n11) (by omega) hl hp7
    cases b8 with
    | true =>
      obtain ⟨v9, p9, m9, _, _, _, hp9, e9⟩ := src_n (R := R) N (n := 3) (b := b3) (m := m8) (z := n11) (by omega) hl hp8
      exact ⟨⟨IntKind.wrap .i64 (v5 * 8192), IntKind.wrap .i64 (1023 - v9), x2, true⟩, p9, m9, hp9, fun ag kN => by
        rw [s_spec_l01Src_maps_Wr_0, decide_eq_true (show n8 > 0 from h8), cond_true, e1, in_rng a0 a2, cond_true, hk1, e2, e3, in_rng c0 c2, cond_true, hk3, e4, cond_true, e5, e6, e7, in_rng d0 d2, cond_true, hk7, e8, cond_true, e9, maps_leaf hL]⟩
    | false =>
      exact ⟨⟨IntKind.wrap .i64 (v5 * 8192), IntKind.wrap .i64 (32 * v6), x2, true⟩, p8, m8, hp8, fun ag kN => by
        rw [s_spec_l01Src_maps_Wr_0, decide_eq_true (show n8 > 0 from h8), cond_true, e1, in_rng a0 a2, cond_true, hk1, e2, e3, in_rng c0 c2, cond_true, hk3, e4, cond_true, e5, e6, e7, in_rng d0 d2, cond_true, hk7, e8, cond_false, maps_leaf hL]⟩
  | false =>
    obtain ⟨b8, p8, m8, hp8, e8⟩ := src_one (R := R) N (n := 20) (b := b3) (m := m4) (z := n11) (by omega) hl hp4
    cases b8 with
    | true =>
      obtain ⟨v9, p9, m9, _, _, _, hp9, e9⟩ := src_n (R := R) N (n := 3) (b := b3) (m := m8) (z := n11) (by omega) hl hp8
      exact ⟨⟨IntKind.wrap .i64 (x * 256), IntKind.wrap .i64 (1023 - v9), x1, false⟩, p9, m9, hp9, fun ag kN => by
        rw [s_spec_l01Src_maps_Wr_0, decide_eq_true (show n8 > 0 from h8), cond_true, e1, in_rng a0 a2, cond_true, hk1, e2, e3, in_rng c0 c2, cond_true, hk3, e4, cond_false, e8, cond_true, e9, maps_leaf hL]⟩
    | false =>
      exact ⟨⟨IntKind.wrap .i64 (x * 256), v2, x1, false⟩, p8, m8, hp8, fun ag kN => by
        rw [s_spec_l01Src_maps_Wr_0, decide_eq_true (show n8 > 0 from h8), cond_true, e1, in_rng a0 a2, cond_true, hk1, e2, e3, in_rng c0 c2, cond_true, hk3, e4, cond_false, e8, cond_false, maps_leaf hL]⟩

theorem maps_go {n7 n11 : Int} {b2 b3 : Bool} {l1 l3 : List Int} (h7 : n7 ≤ 2 ^ 62) (h3 : l3.length = 6) (hl : l1.length ≤ 2 ^ 30) : ∀ (d f : Nat) (b1 : Bool) (p m : Int) (L : List PageMap), d < f → L.length + d ≤ 100 → (0 ≤ p ∧ p ≤ 2 ^ 40) →
    ∃ (b' : Bool) (p' m' : Int) (L' : List PageMap), L'.length = L.length + d ∧ (0 ≤ p' ∧ p' ≤ 2 ^ 40) ∧ ∀ kN : Bool → Int → Int → List PageMap → Option R, l_spec_l01Src_maps_Wr_0 N n7 b2 b3 n11 l1 l3 kN f b1 (d : Int) p m L = kN b' p' m' L' := by
  intro d
  induction d with
  | zero =>
    intro f b1 p m L hf hL hp
    obtain ⟨f, rfl⟩ : ∃ j, f = j + 1 := ⟨f - 1, by omega⟩
    refine ⟨b1, p, m, L, rfl, hp, fun kN => ?_⟩
    rw [l_spec_l01Src_maps_Wr_0, s_spec_l01Src_maps_Wr_0, decide_eq_false (show ¬ ((0 : Nat) : Int) > 0 by omega), cond_false]
  | succ d ih =>
    intro f b1 p m L hf hL hp
    obtain ⟨f, rfl⟩ : ∃ j, f = j + 1 := ⟨f - 1, by omega⟩
    obtain ⟨x, p1, m1, hp1, e1⟩ := maps_step (R := R) N (n8 := ((d + 1 : Nat) : Int)) (b1 := b1) (b2 := b2) (b3 := b3) (m := m) (n11 := n11) (L := L) h7 h3 hl (by omega) (by omega) hp
    have e : IntKind.wrap .i64 (((d + 1 : Nat) : Int) - 1) = ((d : Nat) : Int) := by rw [w64 (by omega) (by omega)]; omega
    rw [e] at e1
    obtain ⟨b', p', m', L', a1, a2, a3⟩ := ih f false p1 m1 (L ++ [x]) (by omega) (by rw [List.length_append, List.length_singleton]; omega) hp1
    exact ⟨b', p', m', L', by rw [a1, List.length_append, List.length_singleton]; omega, a2, fun kN => by rw [l_spec_l01Src_maps_Wr_0, e1]; exact a3 kN⟩

theorem src_maps {n : Int} {b : Bool} {p m z : Int} {l : List Int} (hn : n ≤ 2 ^ 62) (hl : l.length ≤ 2 ^ 30) (hp : 0 ≤ p ∧ p ≤ 2 ^ 40) (hN : 2 ^ 40 < N) :
    ∃ (b' : Bool) (p' m' : Int) (L : List PageMap), 1 ≤ L.length ∧ L.length ≤ 7 ∧ (0 ≤ p' ∧ p' ≤ 2 ^ 40) ∧ ∀ k : Bool → Int → Int → List PageMap → Option R, g_spec_l01Src_maps_Wr N n b p m z l k = k b' p' m' L := by
  obtain ⟨v, p1, m1, a0, a1, _, hp1, e1⟩ := src_n (R := R) N (n := 7) (b := b) (m := m) (z := z) (by omega) hl hp
  have a2 := a1 (by omega)
  obtain ⟨d, rfl⟩ := Int.eq_ofNat_of_zero_le a0
  have e : IntKind.wrap .i64 (1 + (d : Int)) = ((1 + d : Nat) : Int) := by rw [w64 (by omega) (by omega)]; omega
  obtain ⟨b', p', m', L, c1, hp2, e2⟩ := maps_go (R := R) N (n7 := n) (n11 := z) (b2 := false) (b3 := b) (l3 := [(2 : Int), (6 : Int), (10 : Int), (22 : Int), (26 : Int), (158 : Int)]) hn rfl hl (1 + d) N false p1 m1 [] (by omega) (by simp; omega) hp1
  refine ⟨b', p', m', L, by rw [c1]; show 1 ≤ 0 + (1 + d); omega, by rw [c1]; show 0 + (1 + d) ≤ 7; omega, hp2, fun k => ?_⟩
  unfold g_spec_l01Src_maps_Wr c_spec_l01Src_maps_Wr_0
  rw [e1, e]
  exact e2 _


theorem impl_ygetWord_eq {s : ByteArray} {i : Nat} {b : Bool} (h : i + 4 ≤ s.size) (hs : s.size ≤ 2 ^ 60) (k : Int → Option R) : g_impl_ygetWord_w N b (i : Int) (ofBytes s) k = k (wordAt s i) := by
  have h0 := bt_bound s i
  have h1 := bt_bound s (i + 1)
  have h2 := bt_bound s (i + 2)
  have h3 := bt_bound s (i + 3)
  have e1 : IntKind.wrap .i64 ((i : Int) + 1) = ((i + 1 : Nat) : Int) := by rw [w64 (by omega) (by omega)]; omega
  have e2 : IntKind.wrap .i64 ((i : Int) + 2) = ((i + 2 : Nat) : Int) := by rw [w64 (by omega) (by omega)]; omega
  have e3 : IntKind.wrap .i64 ((i : Int) + 3) = ((i + 3 : Nat) : Int) := by rw [w64 (by omega) (by omega)]; omega
  simp only [g_impl_ygetWord_w, e1, e2, e3, dec_nn, ofBytes_length, dec_lt (show i < s.size by omega), dec_lt (show i + 1 < s.size by omega), dec_lt (show i + 2 < s.size by omega), dec_lt (show i + 3 < s.size by omega), Bool.and_true, cond_true, Int.toNat_natCast,
    elemK_some (nth_ofBytes (show i < s.size by omega)), elemK_some (nth_ofBytes (show i + 1 < s.size by omega)), elemK_some (nth_ofBytes (show i + 2 < s.size by omega)), elemK_some (nth_ofBytes (show i + 3 < s.size by omega))]
  rw [w64 (n := bt s i) (by omega) (by omega), w64 (n := bt s (i + 1)) (by omega) (by omega), w64 (n := bt s (i + 2)) (by omega) (by omega), w64 (n := bt s (i + 3)) (by omega) (by omega), w64 (n := bt s (i + 1) * 256) (by omega) (by omega), w64 (n := bt s (i + 2) * 65536) (by omega) (by omega), w64 (n := bt s (i + 3) * 16777216) (by omega) (by omega), or_word _ _ _ _ h0 h1 h2 h3]
  rfl

theorem impl_yputWord_eq {s : ByteArray} {i : Nat} {v : Int} {b : Bool} (h : i + 4 ≤ s.size) (hs : s.size ≤ 2 ^ 60) (k : List Int → Option R) : g_impl_yputWord_w N b (i : Int) v (ofBytes s) k = k (ofBytes (setWord s i v)) := by
  have e1 : IntKind.wrap .i64 ((i : Int) + 1) = ((i + 1 : Nat) : Int) := by rw [w64 (by omega) (by omega)]; omega
  have e2 : IntKind.wrap .i64 ((i : Int) + 2) = ((i + 2 : Nat) : Int) := by rw [w64 (by omega) (by omega)]; omega
  have e3 : IntKind.wrap .i64 ((i : Int) + 3) = ((i + 3 : Nat) : Int) := by rw [w64 (by omega) (by omega)]; omega
  have hl := ofBytes_length s
  rw [← ofBytes_setWord h]
  generalize ofBytes s = l at hl ⊢
  obtain ⟨x0, hx0⟩ := nth_some (l := l) (n := i) (by omega)
  obtain ⟨x1, hx1⟩ := nth_some (l := nset l i (v % 256)) (n := i + 1) (by rw [nset_length]; omega)
  obtain ⟨x2, hx2⟩ := nth_some (l := nset (nset l i (v % 256)) (i + 1) (v / 256 % 256)) (n := i + 2) (by simp only [nset_length]; omega)
  obtain ⟨x3, hx3⟩ := nth_some (l := nset (nset (nset l i (v % 256)) (i + 1) (v / 256 % 256)) (i + 2) (v / 65536 % 256)) (n := i + 3) (by simp only [nset_length]; omega)
  simp only [g_impl_yputWord_w, e1, e2, e3, Go.Eng.wu8, fdiv_lit _ (show (0 : Int) ≤ 256 by omega), fdiv_lit _ (show (0 : Int) ≤ 65536 by omega), fdiv_lit _ (show (0 : Int) ≤ 16777216 by omega), dec_nn, nset_length, dec_lt (show i < l.length by omega), dec_lt (show i + 1 < l.length by omega), dec_lt (show i + 2 < l.length by omega), dec_lt (show i + 3 < l.length by omega), Bool.and_true, cond_true, Int.toNat_natCast,
    elemK_some hx0, elemK_some hx1, elemK_some hx2, elemK_some hx3, blt_t (show i < l.length by omega), blt_t (show i + 1 < l.length by omega), blt_t (show i + 2 < l.length by omega), blt_t (show i + 3 < l.length by omega)]

theorem spec_GetWord_eq {s : ByteArray} {i : Nat} (h : i + 4 ≤ s.size) (hs : s.size ≤ 65536) (k : Bool → Int → Option R) : g_spec_GetWord N s (i : Int) k = k true (wordAt s i) := by
  unfold g_spec_GetWord
  rw [w64 (n := (s.size : Int) - 4) (by omega) (by omega), decide_eq_false (show ¬ (s.size : Int) > 65536 by omega), decide_eq_false (show ¬ (i : Int) < 0 by omega), decide_eq_false (show ¬ (i : Int) > (s.size : Int) - 4 by omega)]
  simp only [cond_false, oK_some_eq]
  exact spec_l01Word_eq N h (by omega) _

theorem spec_SetWord_eq {s : ByteArray} {i : Nat} {v : Int} (h : i + 4 ≤ s.size) (hs : s.size ≤ 65536) (k : ByteArray → Option R) : g_spec_SetWord N s (i : Int) v k = k (setWord s i v) := by
  unfold g_spec_SetWord setWord
  have e1 : IntKind.wrap .i64 ((i : Int) + 4) = ((i + 4 : Nat) : Int) := by rw [w64 (by omega) (by omega)]; omega
  rw [spec_GetWord_eq N h hs]
  simp only [e1, dec_nn, Int.toNat_natCast, decide_eq_true (show ((i : Int) ≤ (s.size : Int)) by omega), decide_eq_true (show (((i + 4 : Nat) : Int) ≤ (s.size : Int)) by omega), Bool.and_true, Bool.not_true, cond_false, cond_true, Int.le_refl, decide_true, spec_PutWord_eq, putWord_size]
  rw [ble_t (by rw [ByteArray.size_extract]; omega), cond_true, ble_t (by rw [ByteArray.size_append, ByteArray.size_extract, ByteArray.size_extract, putWord_size]; omega), cond_true]


/-- The low eight bits. -/
def low8 (n : Int) : Nat := (n % 256).toNat

theorem low8_lt (n : Int) : low8 n < 256 := by unfold low8; omega

theorem and_low (n : Int) (c : Nat) (hc : c < 256) : IntKind.wrap .i64 (((BitVec.ofInt 64 n &&& BitVec.ofInt 64 (c : Int)).toNat : Nat) : Int) = ((low8 n &&& c : Nat) : Int) := by
  have h1 : (BitVec.ofInt 64 n).toNat = (n % 18446744073709551616).toNat := by rw [BitVec.toNat_ofInt]; rfl
  have h2 : (n % 18446744073709551616).toNat &&& c = low8 n &&& c := by
    have e : low8 n = (n % 18446744073709551616).toNat % 256 := by unfold low8; omega
    rw [e]
    generalize (n % 18446744073709551616).toNat = a
    apply Nat.eq_of_testBit_eq
    intro i
    rw [Nat.testBit_and, Nat.testBit_and, show (256 : Nat) = 2 ^ 8 from rfl, Nat.testBit_mod_two_pow]
    by_cases hi : i < 8
    · rw [decide_eq_true hi, Bool.true_and]
    · have : c.testBit i = false := Nat.testBit_lt_two_pow (Nat.lt_of_lt_of_le hc (by
        calc (256 : Nat) = 2 ^ 8 := rfl
          _ ≤ 2 ^ i := Nat.pow_le_pow_right (by omega) (by omega)))
      rw [this, Bool.and_false, Bool.and_false]
  rw [BitVec.toNat_and, h1, ofInt_nat (show c < 2 ^ 64 by omega), h2]
  have : low8 n &&& c ≤ c := Nat.and_le_right
  rw [w64 (by omega) (by omega)]

/-- Whether an entry lets this kind of access. -/
def letsB (e : Nat) (acc : Int) (user : Bool) : Bool :=
  !((e &&& 1) == 0) && (!((e &&& (if acc == 2 then 4 else if acc == 3 then 8 else 2)) == 0) && (if user then !((e &&& 16) == 0) else (acc != 3 || (e &&& 16) == 0)))

theorem spec_l03May_eq (n acc : Int) (user : Bool) (k : Bool → Option R) : g_spec_l03May N n acc user k = k (!((low8 n &&& (if acc == 2 then 4 else if acc == 3 then 8 else 2)) == 0) && (if user then !((low8 n &&& 16) == 0) else (acc != 3 || (low8 n &&& 16) == 0))) := by
  have a4 : IntKind.wrap .i64 (((BitVec.ofInt 64 n &&& BitVec.ofInt 64 4).toNat : Nat) : Int) = ((low8 n &&& 4 : Nat) : Int) := and_low n 4 (by omega)
  have a8 : IntKind.wrap .i64 (((BitVec.ofInt 64 n &&& BitVec.ofInt 64 8).toNat : Nat) : Int) = ((low8 n &&& 8 : Nat) : Int) := and_low n 8 (by omega)
  have a2 : IntKind.wrap .i64 (((BitVec.ofInt 64 n &&& BitVec.ofInt 64 2).toNat : Nat) : Int) = ((low8 n &&& 2 : Nat) : Int) := and_low n 2 (by omega)
  have a16 : IntKind.wrap .i64 (((BitVec.ofInt 64 n &&& BitVec.ofInt 64 16).toNat : Nat) : Int) = ((low8 n &&& 16 : Nat) : Int) := and_low n 16 (by omega)
  have z : ∀ m : Nat, (((m : Nat) : Int) == 0) = (m == 0) := fun m => by rw [Bool.eq_iff_iff]; simp
  have z2 : ∀ m : Nat, (((m : Nat) : Int) != 0) = !(m == 0) := fun m => by rw [Bool.eq_iff_iff]; simp
  have n3 : (acc != 3) = !(acc == 3) := rfl
  unfold g_spec_l03May
  rw [n3]
  simp only [cond_somes, oK_some_eq]
  cases h2 : (acc == 2) <;> cases h3 : (acc == 3) <;> cases user <;>
    simp only [cond_true, cond_false, a4, a8, a2, a16, z, z2, Bool.not_true, Bool.not_false, Bool.false_or, Bool.true_or, if_true, if_false, Bool.false_eq_true, Bool.and_true]
  all_goals first
    | (cases (low8 n &&& 2 == 0) <;> rfl)
    | (cases (low8 n &&& 4 == 0) <;> rfl)
    | (cases (low8 n &&& 8 == 0) <;> rfl)

theorem low8_low8 (e : Int) : low8 ((low8 e : Nat) : Int) = low8 e := by unfold low8; omega

theorem want_k : ∀ m : Nat, m < 256 → ((m &&& 3 == 3) = (!(m &&& 1 == 0) && !(m &&& 2 == 0))) ∧ ((m &&& 5 == 5) = (!(m &&& 1 == 0) && !(m &&& 4 == 0))) ∧ ((m &&& 9 == 9) = (!(m &&& 1 == 0) && !(m &&& 8 == 0))) ∧
    ((m &&& 19 == 19) = (!(m &&& 1 == 0) && (!(m &&& 2 == 0) && !(m &&& 16 == 0)))) ∧ ((m &&& 21 == 21) = (!(m &&& 1 == 0) && (!(m &&& 4 == 0) && !(m &&& 16 == 0)))) ∧ ((m &&& 25 == 25) = (!(m &&& 1 == 0) && (!(m &&& 8 == 0) && !(m &&& 16 == 0)))) := by decide +kernel

theorem impl_ylets_eq (e acc : Int) (ha : acc = 1 ∨ acc = 2 ∨ acc = 3) (user : Bool) (k : Bool → Option R) : g_impl_ylets N ((low8 e : Nat) : Int) acc user k = k (letsB (low8 e) acc user) := by
  obtain ⟨w1, w2, w3, w4, w5, w6⟩ := want_k (low8 e) (low8_lt e)
  have a : ∀ c : Nat, c < 256 → IntKind.wrap .i64 (((BitVec.ofInt 64 ((low8 e : Nat) : Int) &&& BitVec.ofInt 64 (c : Int)).toNat : Nat) : Int) = ((low8 e &&& c : Nat) : Int) := fun c hc => by rw [and_low _ c hc, low8_low8]
  have z : ∀ m c : Nat, (((m : Nat) : Int) == ((c : Nat) : Int)) = (m == c) := fun m c => by rw [Bool.eq_iff_iff]; simp; omega
  have o1 : IntKind.wrap .i64 (((BitVec.ofInt 64 (IntKind.wrap .i64 (((BitVec.ofInt 64 0 ||| BitVec.ofInt 64 2).toNat : Nat) : Int)) ||| BitVec.ofInt 64 1).toNat : Nat) : Int) = ((3 : Nat) : Int) := by decide
  have o2 : IntKind.wrap .i64 (((BitVec.ofInt 64 (IntKind.wrap .i64 (((BitVec.ofInt 64 0 ||| BitVec.ofInt 64 4).toNat : Nat) : Int)) ||| BitVec.ofInt 64 1).toNat : Nat) : Int) = ((5 : Nat) : Int) := by decide
  have o3 : IntKind.wrap .i64 (((BitVec.ofInt 64 (IntKind.wrap .i64 (((BitVec.ofInt 64 0 ||| BitVec.ofInt 64 8).toNat : Nat) : Int)) ||| BitVec.ofInt 64 1).toNat : Nat) : Int) = ((9 : Nat) : Int) := by decide
  have o4 : IntKind.wrap .i64 (((BitVec.ofInt 64 (IntKind.wrap .i64 (((BitVec.ofInt 64 16 ||| BitVec.ofInt 64 2).toNat : Nat) : Int)) ||| BitVec.ofInt 64 1).toNat : Nat) : Int) = ((19 : Nat) : Int) := by decide
  have o5 : IntKind.wrap .i64 (((BitVec.ofInt 64 (IntKind.wrap .i64 (((BitVec.ofInt 64 16 ||| BitVec.ofInt 64 4).toNat : Nat) : Int)) ||| BitVec.ofInt 64 1).toNat : Nat) : Int) = ((21 : Nat) : Int) := by decide
  have o6 : IntKind.wrap .i64 (((BitVec.ofInt 64 (IntKind.wrap .i64 (((BitVec.ofInt 64 16 ||| BitVec.ofInt 64 8).toNat : Nat) : Int)) ||| BitVec.ofInt 64 1).toNat : Nat) : Int) = ((25 : Nat) : Int) := by decide
  have z16 : (IntKind.wrap .i64 (((BitVec.ofInt 64 ((low8 e : Nat) : Int) &&& BitVec.ofInt 64 16).toNat : Nat) : Int) == 0) = (low8 e &&& 16 == 0) := by rw [show (16 : Int) = ((16 : Nat) : Int) from rfl, a 16 (by omega)]; exact z _ 0
  have q1 : ((1 : Int) == 1) = true := rfl
  have q2 : ((2 : Int) == 1) = false := rfl
  have q3 : ((2 : Int) == 2) = true := rfl
  have q4 : ((3 : Int) == 1) = false := rfl
  have q5 : ((3 : Int) == 2) = false := rfl
  have q6 : ((3 : Int) == 3) = true := rfl
  have q7 : ((1 : Int) != 3) = true := rfl
  have q8 : ((2 : Int) != 3) = true := rfl
  have q9 : ((3 : Int) != 3) = false := rfl
  have q10 : ((1 : Int) == 2) = false := rfl
  have q11 : ((1 : Int) == 3) = false := rfl
  have q12 : ((2 : Int) == 3) = false := rfl
  unfold g_impl_ylets letsB
  rcases ha with rfl | rfl | rfl <;> cases user <;>
    simp only [cond_true, cond_false, oK_some_eq, cond_somes, q1, q2, q3, q4, q5, q6, q7, q8, q9, q10, q11, q12, o1, o2, o3, o4, o5, o6, a 3 (by omega), a 5 (by omega), a 9 (by omega), a 19 (by omega), a 21 (by omega), a 25 (by omega), z, z16, w1, w2, w3, w4, w5, w6, if_true, if_false, Bool.false_eq_true, Bool.true_or, Bool.false_or, Bool.and_true]
  all_goals first
    | rfl
    | (cases (low8 e &&& 1 == 0) <;> cases (low8 e &&& 2 == 0) <;> rfl)
    | (cases (low8 e &&& 1 == 0) <;> cases (low8 e &&& 4 == 0) <;> rfl)
    | (cases (low8 e &&& 1 == 0) <;> cases (low8 e &&& 8 == 0) <;> cases (low8 e &&& 16 == 0) <;> rfl)
    | (cases (low8 e &&& 1 == 0) <;> cases (low8 e &&& 2 == 0) <;> cases (low8 e &&& 16 == 0) <;> rfl)
    | (cases (low8 e &&& 1 == 0) <;> cases (low8 e &&& 4 == 0) <;> cases (low8 e &&& 16 == 0) <;> rfl)

structure Look where
  fault : Int
  pa : Int
  entryAt : Int
  old : Int
  entry : Int
  large : Bool
  r0 : Int
  r1 : Int
  many : Int

def wordN (s : ByteArray) (i : Nat) : Nat := (wordAt s i).toNat

theorem wordN_cast (s : ByteArray) (i : Nat) : wordAt s i = ((wordN s i : Nat) : Int) := by
  have := wordAt_bound s i
  unfold wordN
  omega

theorem wordN_lt (s : ByteArray) (i : Nat) : wordN s i < 4294967296 := by
  have := wordAt_bound s i
  unfold wordN
  omega

def putE (e : Nat) (acc : Int) : Nat := e ||| (if acc == 2 then 96 else 32)

/-- An entry leads on to another table. -/
def leadsOn (e : Nat) : Bool := !((low8 e &&& 1) == 0) && ((low8 e &&& 14) == 0)

/-- The place of an entry. -/
@[irreducible] def ent (t i : Nat) : Nat := t * 256 + 4 * i

theorem ent_eq (t i : Nat) : ent t i = t * 256 + 4 * i := by unfold ent; rfl

def look (s : ByteArray) (root va : Nat) (acc : Int) (user : Bool) : Look :=
  let fr := s.size / 256
  let a1 := ent root (va / 8192)
  let e := wordN s a1
  let a2 := ent (e / 256) (va / 256 % 32)
  let e2 := wordN s a2
  cond (decide (fr ≤ root)) ⟨2, 0, 0, 0, 0, false, 0, 0, 0⟩
    (cond (leadsOn e)
      (cond (decide (fr ≤ e / 256)) ⟨2, 0, a1, 0, 0, false, root, 0, 1⟩
        (cond (!letsB (low8 e2) acc user) ⟨1, 0, a2, 0, 0, false, root, (e / 256 : Nat), 2⟩
          (cond (decide (fr ≤ e2 / 256)) ⟨2, 0, a2, 0, 0, false, root, (e / 256 : Nat), 2⟩
            ⟨0, (e2 / 256 * 256 + va % 256 : Nat), a2, e2, putE e2 acc, false, root, (e / 256 : Nat), 2⟩)))
      (cond (!(e / 256 % 32 == 0)) ⟨1, 0, a1, 0, 0, false, root, 0, 1⟩
        (cond (!letsB (low8 e) acc user) ⟨1, 0, a1, 0, 0, false, root, 0, 1⟩
          (cond (decide (fr ≤ e / 256 + va / 256 % 32)) ⟨2, 0, a1, 0, 0, false, root, 0, 1⟩
            ⟨0, ((e / 256 + va / 256 % 32) * 256 + va % 256 : Nat), a1, e, putE e acc, true, root, 0, 1⟩))))

theorem or_nat {a b : Nat} (ha : a < 2 ^ 62) (hb : b < 2 ^ 62) : IntKind.wrap .i64 (((BitVec.ofInt 64 (a : Int) ||| BitVec.ofInt 64 (b : Int)).toNat : Nat) : Int) = ((a ||| b : Nat) : Int) := by
  rw [BitVec.toNat_or, ofInt_nat (by omega), ofInt_nat (by omega)]
  have := Nat.or_lt_two_pow ha hb
  rw [w64 (by omega) (by omega)]

theorem and31 (n : Int) : IntKind.wrap .i64 (((BitVec.ofInt 64 n &&& BitVec.ofInt 64 31).toNat : Nat) : Int) = n % 32 := and_mask n 5 (by omega)

theorem impl_yputs_eq (acc : Int) (k : Int → Option R) : g_impl_yputs N acc k = k (((if acc == 2 then 96 else 32 : Nat)) : Int) := by
  unfold g_impl_yputs
  cases h : acc == 2 <;> rfl

theorem impl_yframes_eq (s : ByteArray) (b : Bool) (hs : s.size ≤ 2 ^ 60) (k : Int → Option R) : g_impl_yframes_w N b (ofBytes s) k = k ((s.size / 256 : Nat) : Int) := by
  unfold g_impl_yframes_w
  rw [ofBytes_length, Int.tdiv_eq_ediv_of_nonneg (by omega), w64 (by omega) (by omega)]
  rfl

theorem low8_255 (e : Nat) : IntKind.wrap .i64 (((BitVec.ofInt 64 (e : Int) &&& BitVec.ofInt 64 255).toNat : Nat) : Int) = ((low8 (e : Int) : Nat) : Int) := by
  rw [and255]; unfold low8; omega

theorem leads_eq (e : Nat) : cond (IntKind.wrap .i64 (((BitVec.ofInt 64 (e : Int) &&& BitVec.ofInt 64 1).toNat : Nat) : Int) != 0) (some (IntKind.wrap .i64 (((BitVec.ofInt 64 (e : Int) &&& BitVec.ofInt 64 14).toNat : Nat) : Int) == 0)) (some false) = some (leadsOn e) := by
  have a1 : IntKind.wrap .i64 (((BitVec.ofInt 64 (e : Int) &&& BitVec.ofInt 64 1).toNat : Nat) : Int) = ((low8 e &&& 1 : Nat) : Int) := and_low _ 1 (by omega)
  have a14 : IntKind.wrap .i64 (((BitVec.ofInt 64 (e : Int) &&& BitVec.ofInt 64 14).toNat : Nat) : Int) = ((low8 e &&& 14 : Nat) : Int) := and_low _ 14 (by omega)
  have z : ∀ m : Nat, (((m : Nat) : Int) == 0) = (m == 0) := fun m => by rw [Bool.eq_iff_iff]; simp
  have z2 : ∀ m : Nat, (((m : Nat) : Int) != 0) = !(m == 0) := fun m => by rw [Bool.eq_iff_iff]; simp
  unfold leadsOn
  rw [a1, a14, z, z2]
  cases (low8 e &&& 1 == 0) <;> rfl

def Look.out (w : Look) (k : Int → Int → Int → Int → Int → Bool → Int → Int → Int → Option R) : Option R := k w.fault w.pa w.entryAt w.old w.entry w.large w.r0 w.r1 w.many

theorem impl_ylookup_eq {s : ByteArray} {root va : Nat} {acc : Int} {user b : Bool} (hs : s.size ≤ 65536) (h256 : s.size % 256 = 0) (hr : root ≤ 255) (hv : va < 262144) (ha : acc = 1 ∨ acc = 2 ∨ acc = 3) (k : Int → Int → Int → Int → Int → Bool → Int → Int → Int → Option R) :
    g_impl_ylookup_w N b root va acc user (ofBytes s) k = (look s root va acc user).out k := by
  unfold g_impl_ylookup_w look
  have e1 : IntKind.wrap .i64 (IntKind.wrap .i64 ((root : Int) * 256) + IntKind.wrap .i64 (4 * ((va : Int) / 8192 % 32))) = ((ent root (va / 8192) : Nat) : Int) := by
    rw [ent_eq, w64 (n := (root : Int) * 256) (by omega) (by omega), w64 (n := 4 * ((va : Int) / 8192 % 32)) (by omega) (by omega), w64 (by omega) (by omega)]; omega
  have hy : ∀ k : Int → Option R, g_impl_yframes_w N b (ofBytes s) k = k ((s.size / 256 : Nat) : Int) := impl_yframes_eq N s b (by omega)
  simp only [fdiv_lit _ (show (0 : Int) ≤ 256 by omega), fdiv_lit _ (show (0 : Int) ≤ 8192 by omega)]
  simp only [and31]
  simp only [e1]
  rw [hy]
  by_cases h0 : s.size / 256 ≤ root
  · rw [decide_eq_true (show ((root : Int) ≥ ((s.size / 256 : Nat) : Int)) by omega), decide_eq_true h0]; rfl
  rw [decide_eq_false (show ¬ ((root : Int) ≥ ((s.size / 256 : Nat) : Int)) by omega), decide_eq_false h0]
  rw [cond_false]
  rw [impl_ygetWord_eq N (show ent root (va / 8192) + 4 ≤ s.size by rw [ent_eq]; omega) (by omega), wordN_cast]
  have hlt := wordN_lt s (ent root (va / 8192))
  generalize wordN s (ent root (va / 8192)) = e at hlt ⊢
  rw [leads_eq, oK_some_eq]
  have ed : (e : Int) / 256 = ((e / 256 : Nat) : Int) := by omega
  rw [ed]
  cases hle : leadsOn e with
  | true =>
    rw [cond_true, hy]
    by_cases h1 : s.size / 256 ≤ e / 256
    · rw [decide_eq_true (show (((e / 256 : Nat) : Int) ≥ ((s.size / 256 : Nat) : Int)) by omega), decide_eq_true h1]; rfl
    rw [decide_eq_false (show ¬ (((e / 256 : Nat) : Int) ≥ ((s.size / 256 : Nat) : Int)) by omega), decide_eq_false h1]
    rw [cond_false]
    have e2 : IntKind.wrap .i64 (IntKind.wrap .i64 (((e / 256 : Nat) : Int) * 256) + IntKind.wrap .i64 (4 * ((va : Int) / 256 % 32))) = ((ent (e / 256) (va / 256 % 32) : Nat) : Int) := by
      rw [ent_eq, w64 (n := ((e / 256 : Nat) : Int) * 256) (by omega) (by omega), w64 (n := 4 * ((va : Int) / 256 % 32)) (by omega) (by omega), w64 (by omega) (by omega)]; omega
    rw [e2, impl_ygetWord_eq N (show ent (e / 256) (va / 256 % 32) + 4 ≤ s.size by rw [ent_eq]; omega) (by omega), wordN_cast]
    have hlt2 := wordN_lt s (ent (e / 256) (va / 256 % 32))
    generalize wordN s (ent (e / 256) (va / 256 % 32)) = e2 at hlt2 ⊢
    rw [low8_255, impl_ylets_eq N _ _ ha]
    cases hle2 : letsB (low8 e2) acc user with
    | false => rfl
    | true =>
      rw [Bool.not_true, cond_false, hy]
      rw [show (e2 : Int) / 256 = ((e2 / 256 : Nat) : Int) by omega]
      by_cases h2 : s.size / 256 ≤ e2 / 256
      · rw [decide_eq_true (show (((e2 / 256 : Nat) : Int) ≥ ((s.size / 256 : Nat) : Int)) by omega), decide_eq_true h2]; rfl
      rw [decide_eq_false (show ¬ (((e2 / 256 : Nat) : Int) ≥ ((s.size / 256 : Nat) : Int)) by omega), decide_eq_false h2, impl_yputs_eq, or_nat (by omega) (by split <;> omega), and255,
        w64 (n := ((e2 / 256 : Nat) : Int) * 256) (by omega) (by omega), w64 (n := ((e2 / 256 : Nat) : Int) * 256 + (va : Int) % 256) (by omega) (by omega)]
      rw [show ((e2 / 256 : Nat) : Int) * 256 + (va : Int) % 256 = ((e2 / 256 * 256 + va % 256 : Nat) : Int) by omega]
      rw [cond_false]
      rfl
  | false =>
    rw [cond_false]
    have hm : (Int.tmod ((e / 256 : Nat) : Int) 32 != 0) = !(e / 256 % 32 == 0) := by
      rw [Int.tmod_eq_emod_of_nonneg (by omega), Bool.eq_iff_iff]; simp; omega
    rw [hm]
    cases hle3 : e / 256 % 32 == 0 with
    | false => rfl
    | true =>
      rw [Bool.not_true, cond_false, cond_false, low8_255, impl_ylets_eq N _ _ ha]
      cases hle2 : letsB (low8 e) acc user with
      | false => rfl
      | true =>
        rw [Bool.not_true, cond_false, cond_false, hy, w64 (n := ((e / 256 : Nat) : Int) + (va : Int) / 256 % 32) (by omega) (by omega), show ((e / 256 : Nat) : Int) + (va : Int) / 256 % 32 = ((e / 256 + va / 256 % 32 : Nat) : Int) by omega]
        by_cases h2 : s.size / 256 ≤ e / 256 + va / 256 % 32
        · rw [decide_eq_true (show (((e / 256 + va / 256 % 32 : Nat) : Int) ≥ ((s.size / 256 : Nat) : Int)) by omega), decide_eq_true h2]; rfl
        rw [decide_eq_false (show ¬ (((e / 256 + va / 256 % 32 : Nat) : Int) ≥ ((s.size / 256 : Nat) : Int)) by omega), decide_eq_false h2, impl_yputs_eq, or_nat (by omega) (by split <;> omega), and255,
          w64 (n := ((e / 256 + va / 256 % 32 : Nat) : Int) * 256) (by omega) (by omega), w64 (n := ((e / 256 + va / 256 % 32 : Nat) : Int) * 256 + (va : Int) % 256) (by omega) (by omega), show ((e / 256 + va / 256 % 32 : Nat) : Int) * 256 + (va : Int) % 256 = (((e / 256 + va / 256 % 32) * 256 + va % 256 : Nat) : Int) by omega]
        rw [cond_false]
        rfl


theorem bits14 : ∀ m : Nat, m < 256 → ((m &&& 14 == 0) = true → (m &&& 2 == 0) = true ∧ (m &&& 4 == 0) = true ∧ (m &&& 8 == 0) = true) := by decide +kernel

/-- What the reference asks of an entry's bits. -/
theorem mayB (e : Nat) (acc : Int) (user : Bool) : ((low8 e &&& 1 == 0) || ((low8 e &&& 14 == 0) || !(!((low8 e &&& (if acc == 2 then 4 else if acc == 3 then 8 else 2)) == 0) && (if user then !((low8 e &&& 16) == 0) else (acc != 3 || (low8 e &&& 16) == 0))))) = !letsB (low8 e) acc user := by
  have h := bits14 (low8 e) (low8_lt e)
  unfold letsB
  cases h1 : (low8 e &&& 1 == 0)
  · cases h14 : (low8 e &&& 14 == 0)
    · rfl
    · obtain ⟨h2, h4, h8⟩ := h h14
      have : ((low8 e &&& (if acc == 2 then 4 else if acc == 3 then 8 else 2)) == 0) = true := by
        split
        · exact h4
        · split
          · exact h8
          · exact h2
      rw [this]; rfl
  · rfl

def framesOf (w : Look) : List Int := cond (w.many == 0) [] (cond (w.many == 1) [w.r0] [w.r0, w.r1])

theorem spec_l03Acc_eq {acc : Int} (ha : acc = 1 ∨ acc = 2 ∨ acc = 3) (k : Bool → Option R) : g_spec_l03Acc N acc k = k true := by
  rcases ha with rfl | rfl | rfl <;> rfl

theorem spec_l03Entry_no {s : ByteArray} {t i : Nat} (ht : t < 2 ^ 40) (h : s.size / 256 ≤ t) (k : Int → Bool → Option R) : g_spec_l03Entry N s t i k = k 0 false := by
  unfold g_spec_l03Entry
  rw [w64 (n := (t : Int) + 1) (by omega) (by omega), w64 (n := ((t : Int) + 1) * 256) (by omega) (by omega), decide_eq_true (show ((t : Int) + 1) * 256 > (s.size : Int) by omega)]
  rfl

theorem spec_l03Entry_yes {s : ByteArray} {t i : Nat} (hs : s.size ≤ 65536) (hi : i < 32) (h : ¬ s.size / 256 ≤ t) (k : Int → Bool → Option R) : g_spec_l03Entry N s t i k = k ((wordN s (ent t i) : Nat) : Int) true := by
  unfold g_spec_l03Entry
  rw [w64 (n := (t : Int) + 1) (by omega) (by omega), w64 (n := ((t : Int) + 1) * 256) (by omega) (by omega), decide_eq_false (show ¬ ((t : Int) + 1) * 256 > (s.size : Int) by omega), cond_false, w64 (n := (t : Int) * 256) (by omega) (by omega), w64 (n := 4 * (i : Int)) (by omega) (by omega), w64 (n := (t : Int) * 256 + 4 * (i : Int)) (by omega) (by omega), show (t : Int) * 256 + 4 * (i : Int) = ((ent t i : Nat) : Int) by rw [ent_eq]; omega,
    spec_l01Word_eq N (show ent t i + 4 ≤ s.size by rw [ent_eq]; omega) (by omega), wordN_cast]

/-- The flags put into an entry, in the reference's way. -/
theorem putE_spec {e : Nat} (he : e < 4294967296) (acc : Int) : cond (acc == 2) (some (IntKind.wrap .i64 (((BitVec.ofInt 64 (IntKind.wrap .i64 (((BitVec.ofInt 64 (e : Int) ||| BitVec.ofInt 64 32).toNat : Nat) : Int)) ||| BitVec.ofInt 64 64).toNat : Nat) : Int))) (some (IntKind.wrap .i64 (((BitVec.ofInt 64 (e : Int) ||| BitVec.ofInt 64 32).toNat : Nat) : Int))) = some ((putE e acc : Nat) : Int) := by
  have h32 : IntKind.wrap .i64 (((BitVec.ofInt 64 (e : Int) ||| BitVec.ofInt 64 32).toNat : Nat) : Int) = ((e ||| 32 : Nat) : Int) := or_nat (b := 32) (by omega) (by omega)
  have hb : e ||| 32 < 2 ^ 32 := Nat.or_lt_two_pow (by omega) (by omega)
  have h96 : IntKind.wrap .i64 (((BitVec.ofInt 64 ((e ||| 32 : Nat) : Int) ||| BitVec.ofInt 64 64).toNat : Nat) : Int) = ((e ||| 32 ||| 64 : Nat) : Int) := or_nat (b := 64) (by omega) (by omega)
  rw [h32, h96]
  unfold putE
  cases h : acc == 2
  · rfl
  · rw [Nat.or_assoc]; rfl

theorem may_eq (e : Nat) (acc : Int) (user : Bool) : cond (IntKind.wrap .i64 (((BitVec.ofInt 64 (e : Int) &&& BitVec.ofInt 64 1).toNat : Nat) : Int) == 0) (some true) (cond (IntKind.wrap .i64 (((BitVec.ofInt 64 (e : Int) &&& BitVec.ofInt 64 14).toNat : Nat) : Int) == 0) (some true) (g_spec_l03May N e acc user fun b => some (!b))) = some (!letsB (low8 e) acc user) := by
  have a1 : IntKind.wrap .i64 (((BitVec.ofInt 64 (e : Int) &&& BitVec.ofInt 64 1).toNat : Nat) : Int) = ((low8 e &&& 1 : Nat) : Int) := and_low _ 1 (by omega)
  have a14 : IntKind.wrap .i64 (((BitVec.ofInt 64 (e : Int) &&& BitVec.ofInt 64 14).toNat : Nat) : Int) = ((low8 e &&& 14 : Nat) : Int) := and_low _ 14 (by omega)
  have z : ∀ m : Nat, (((m : Nat) : Int) == 0) = (m == 0) := fun m => by rw [Bool.eq_iff_iff]; simp
  rw [a1, a14, z, z, spec_l03May_eq, ← mayB]
  cases (low8 e &&& 1 == 0) <;> cases (low8 e &&& 14 == 0) <;> rfl

theorem may_eq32 (e : Nat) (acc : Int) (user b : Bool) : cond (IntKind.wrap .i64 (((BitVec.ofInt 64 (e : Int) &&& BitVec.ofInt 64 1).toNat : Nat) : Int) == 0) (some true) (cond (IntKind.wrap .i64 (((BitVec.ofInt 64 (e : Int) &&& BitVec.ofInt 64 14).toNat : Nat) : Int) == 0) (some true) (cond b (some true) (g_spec_l03May N e acc user fun b => some (!b)))) = some (b || !letsB (low8 e) acc user) := by
  have h := may_eq N e acc user
  cases b
  · exact h
  · cases (IntKind.wrap .i64 (((BitVec.ofInt 64 (e : Int) &&& BitVec.ofInt 64 1).toNat : Nat) : Int) == 0) <;> cases (IntKind.wrap .i64 (((BitVec.ofInt 64 (e : Int) &&& BitVec.ofInt 64 14).toNat : Nat) : Int) == 0) <;> rfl


theorem cond_ex {A : Type} {t : Bool} {X Y : Option A} (hx : ∃ a, X = some a) (hy : ∃ a, Y = some a) : ∃ a, cond t X Y = some a := by
  cases t
  · exact hy
  · exact hx

theorem fdiv_nat (a : Nat) (b : Nat) (hb : 0 < b) : Int.fdiv (a : Int) (b : Int) = ((a / b : Nat) : Int) := by
  rw [Int.fdiv_eq_ediv_of_nonneg _ (by omega)]
  rfl

theorem at_eq {n v : Nat} (hn : n < 256) (hv : v < 262144) : IntKind.wrap .i64 (IntKind.wrap .i64 ((n : Int) * 256) + IntKind.wrap .i64 (4 * Int.fdiv (v : Int) 8192)) = ((n * 256 + 4 * (v / 8192) : Nat) : Int) := by
  have e := fdiv_nat v 8192 (by omega)
  have e' : Int.fdiv (v : Int) 8192 = ((v / 8192 : Nat) : Int) := e
  have hd : v / 8192 < 32 := by omega
  rw [e', w64 (n := (n : Int) * 256) (by omega) (by omega), w64 (n := 4 * ((v / 8192 : Nat) : Int)) (by omega) (by omega), w64 (by omega) (by omega)]
  omega

theorem ix_eq {v : Nat} (hv : v < 262144) : Int.tmod (Int.fdiv (v : Int) 256) 32 = ((v / 256 % 32 : Nat) : Int) := by
  have e' : Int.fdiv (v : Int) 256 = ((v / 256 : Nat) : Int) := fdiv_nat v 256 (by omega)
  rw [e', tmod_nn (by omega)]
  rfl

theorem at2_eq {t i : Nat} (ht : t < 2 ^ 40) (hi : i < 32) : IntKind.wrap .i64 (IntKind.wrap .i64 ((t : Int) * 256) + IntKind.wrap .i64 (4 * (i : Int))) = ((t * 256 + 4 * i : Nat) : Int) := by
  rw [w64 (n := (t : Int) * 256) (by omega) (by omega), w64 (n := 4 * (i : Int)) (by omega) (by omega), w64 (by omega) (by omega)]
  omega

/-- The last step: the entry of the page's table is written, if it is free. -/
theorem map_last {s : ByteArray} {e v : Nat} {w : Int} (hs : s.size ≤ 65536) (he : e < 2 ^ 40) (hv : v < 262144) : ∃ (s' : ByteArray) (c : Int), s'.size = s.size ∧ ∀ k : ByteArray → Int → Option R,
    (g_spec_l03Entry N s (Int.fdiv (e : Int) 256) (Int.tmod (Int.fdiv (v : Int) 256) 32) fun n6 b3 =>
      (oK (cond (!b3) (some true) (some (IntKind.wrap .i64 (((BitVec.toNat (BitVec.ofInt 64 n6 &&& BitVec.ofInt 64 1)) : Nat) : Int) != 0))) fun j4 =>
      cond j4 (k s 9)
      (g_spec_SetWord N s (IntKind.wrap .i64 (IntKind.wrap .i64 (Int.fdiv (e : Int) 256 * 256) + IntKind.wrap .i64 (4 * Int.tmod (Int.fdiv (v : Int) 256) 32))) w fun s4 => k s4 0))) = k s' c := by
  have e' : Int.fdiv (e : Int) 256 = ((e / 256 : Nat) : Int) := fdiv_nat e 256 (by omega)
  have hi : v / 256 % 32 < 32 := Nat.mod_lt _ (by omega)
  rw [e', ix_eq hv, at2_eq (by omega) hi]
  by_cases h : s.size / 256 ≤ e / 256
  · refine ⟨s, 9, rfl, fun k => ?_⟩
    rw [spec_l03Entry_no N (by omega) h]
    rfl
  · have hle : (e / 256 * 256 + 4 * (v / 256 % 32)) + 4 ≤ s.size := by omega
    cases hc : (IntKind.wrap .i64 (((BitVec.toNat (BitVec.ofInt 64 ((wordN s (ent (e / 256) (v / 256 % 32)) : Nat) : Int) &&& BitVec.ofInt 64 1)) : Nat) : Int) != 0) with
    | true =>
      refine ⟨s, 9, rfl, fun k => ?_⟩
      rw [spec_l03Entry_yes N hs hi h, Bool.not_true, cond_false, hc, oK_some_eq, cond_true]
    | false =>
      refine ⟨setWord s (e / 256 * 256 + 4 * (v / 256 % 32)) w, 0, setWord_size hle w, fun k => ?_⟩
      rw [spec_l03Entry_yes N hs hi h, Bool.not_true, cond_false, hc, oK_some_eq, cond_false, spec_SetWord_eq N hle hs]

def mapForm (n1 n2 n3 j : Int) (b : Bool) : Option Bool :=
  cond (j == 0) none (cond (Int.tmod n1 j != 0) (some true) (cond (decide (n2 < 0)) (some true) (cond (decide (n2 > 1023)) (some true)
    (cond b
      (cond (Int.tmod n2 32 != 0) (some true) (cond (IntKind.wrap .i64 (((BitVec.toNat (BitVec.ofInt 64 n3 &&& BitVec.ofInt 64 14)) : Nat) : Int) == 0) (some true) (some (n3 != IntKind.wrap .i64 (((BitVec.toNat (BitVec.ofInt 64 n3 &&& BitVec.ofInt 64 158)) : Nat) : Int)))))
      (cond (IntKind.wrap .i64 (((BitVec.toNat (BitVec.ofInt 64 n3 &&& BitVec.ofInt 64 14)) : Nat) : Int) == 0) (some true) (some (n3 != IntKind.wrap .i64 (((BitVec.toNat (BitVec.ofInt 64 n3 &&& BitVec.ofInt 64 158)) : Nat) : Int))))))))

theorem mapForm_ex (n1 n2 n3 j : Int) (b : Bool) (hj : j ≠ 0) : ∃ a, mapForm n1 n2 n3 j b = some a := by
  unfold mapForm
  rw [show (j == 0) = false by rw [beq_dec]; exact decide_eq_false hj, cond_false]
  exact cond_ex ⟨_, rfl⟩ (cond_ex ⟨_, rfl⟩ (cond_ex ⟨_, rfl⟩ (cond_ex (cond_ex ⟨_, rfl⟩ (cond_ex ⟨_, rfl⟩ ⟨_, rfl⟩)) (cond_ex ⟨_, rfl⟩ ⟨_, rfl⟩))))

theorem bne_t {x : Int} (h : (x != 0) = true) : (x == 0) = false := by
  cases hx : (x == 0) with
  | false => rfl
  | true => rw [bne, hx] at h; cases h

theorem bne_f {x : Int} (h : (x != 0) = false) : (x == 0) = true := by
  cases hx : (x == 0) with
  | true => rfl
  | false => rw [bne, hx] at h; cases h

theorem ble_max {a : Nat} (h : a ≤ 70000) : Nat.ble a 9223372036854775807 = true := by
  rw [ble_t]
  omega

theorem fr1 {y z : Nat} (hy : y < z / 256) (hz : z ≤ 65536) : y * 256 + 256 ≤ 70000 := by omega

theorem fr2 {y z : Nat} (hy : y < z / 256) (hz : z ≤ 65536) : y * 256 + 256 + (z - (y + 1) * 256) ≤ 70000 := by omega

theorem map_v1 {s : ByteArray} {r : Nat} {n1 n2 n3 : Int} {b b1 : Bool} {m m1 m2 : Nat} {l : List Int} (hs : s.size ≤ 65536) (h256 : s.size % 256 = 0) (hr : r < s.size / 256) (hw : m + m1 ≤ l.length) (hl : ∀ x ∈ l, ∃ y : Nat, x = (y : Int) ∧ y < s.size / 256) :
    ∃ (s' : ByteArray) (m' m1' m2' : Nat) (c : Int), s'.size = s.size ∧ m' + m1' ≤ l.length ∧ ∀ k : ByteArray → Nat → Nat → Nat → Int → Option R, g_spec_l03Map_w_v1 N s (r : Int) n1 n2 n3 b m m1 m2 b1 l k = k s' m' m1' m2' c := by
  have hj : ∀ k : ByteArray → Nat → Nat → Nat → Int → Option R, g_spec_l03Map_w_v1 N s (r : Int) n1 n2 n3 b m m1 m2 b1 l k = oK (cond b (some (8192 : Int)) (some (256 : Int))) fun j => oK (cond (decide (n1 < 0)) (some true) (cond (decide (n1 ≥ 262144)) (some true) (mapForm n1 n2 n3 j b))) _ := fun k => rfl
  by_cases hv0 : n1 < 0
  · exact ⟨s, m, m1, m2, 1, rfl, hw, fun k => by rw [hj]; cases b <;> (rw [decide_eq_true hv0]; rfl)⟩
  by_cases hv1 : n1 ≥ 262144
  · exact ⟨s, m, m1, m2, 1, rfl, hw, fun k => by rw [hj]; cases b <;> (rw [decide_eq_true hv1, decide_eq_false hv0]; rfl)⟩
  obtain ⟨v, rfl⟩ := Int.eq_ofNat_of_zero_le (show 0 ≤ n1 by omega)
  have hv : v < 262144 := by omega
  obtain ⟨bad, hbad⟩ := mapForm_ex (v : Int) n2 n3 (cond b 8192 256) b (by cases b <;> decide)
  have hc : (cond b (some (8192 : Int)) (some (256 : Int))) = some (cond b 8192 256) := by cases b <;> rfl
  have hk : ∀ k : ByteArray → Nat → Nat → Nat → Int → Option R, g_spec_l03Map_w_v1 N s (r : Int) v n2 n3 b m m1 m2 b1 l k = cond bad (k s m m1 m2 1) _ := fun k => by
    rw [hj, hc, oK_some_eq, decide_eq_false hv0, cond_false, decide_eq_false hv1, cond_false, hbad, oK_some_eq]
  cases bad with
  | true => exact ⟨s, m, m1, m2, 1, rfl, hw, fun k => by rw [hk]; rfl⟩
  | false =>
  have hd : v / 8192 < 32 := by omega
  have hat : (r * 256 + 4 * (v / 8192)) + 4 ≤ s.size := by omega
  have he := wordN_lt s (r * 256 + 4 * (v / 8192))
  generalize hw0 : wordN s (r * 256 + 4 * (v / 8192)) = e at he
  have hk2 : ∀ k : ByteArray → Nat → Nat → Nat → Int → Option R, g_spec_l03Map_w_v1 N s (r : Int) v n2 n3 b m m1 m2 b1 l k = _ := fun k => by
    rw [hk, cond_false, at_eq (by omega) hv, spec_l01Word_eq N hat (by omega), wordN_cast, hw0]
  obtain ⟨s1, c1, hs1, hlast⟩ := map_last (R := R) N (s := s) (e := e) (v := v) (w := IntKind.wrap .i64 (((BitVec.toNat (BitVec.ofInt 64 (IntKind.wrap .i64 (((BitVec.toNat (BitVec.ofInt 64 (IntKind.wrap .i64 (n2 * 256)) ||| BitVec.ofInt 64 n3)) : Nat) : Int)) ||| BitVec.ofInt 64 1)) : Nat) : Int)) hs (by omega) hv
  cases b with
  | true =>
    cases hV : (IntKind.wrap .i64 (((BitVec.toNat (BitVec.ofInt 64 (e : Int) &&& BitVec.ofInt 64 1)) : Nat) : Int) != 0) with
    | true => exact ⟨s, m, m1, m2, 9, rfl, hw, fun k => by rw [hk2, cond_true, hV, cond_true]⟩
    | false => exact ⟨setWord s (r * 256 + 4 * (v / 8192)) _, m, m1, m2, 0, setWord_size hat _, hw, fun k => by rw [hk2, cond_true, hV, cond_false, spec_SetWord_eq N hat hs]⟩
  | false =>
    cases hV : (IntKind.wrap .i64 (((BitVec.toNat (BitVec.ofInt 64 (e : Int) &&& BitVec.ofInt 64 1)) : Nat) : Int) != 0) with
    | true =>
      have hV' : (IntKind.wrap .i64 (((BitVec.toNat (BitVec.ofInt 64 (e : Int) &&& BitVec.ofInt 64 1)) : Nat) : Int) == 0) = false := bne_t hV
      cases hL : (IntKind.wrap .i64 (((BitVec.toNat (BitVec.ofInt 64 (e : Int) &&& BitVec.ofInt 64 14)) : Nat) : Int) != 0) with
      | true => exact ⟨s, m, m1, m2, 9, rfl, hw, fun k => by rw [hk2, cond_false, hV, cond_true, oK_some_eq, hL, cond_true]⟩
      | false => exact ⟨s1, m, m1, m2, c1, hs1, hw, fun k => by rw [hk2, cond_false, hV, cond_true, oK_some_eq, hL, cond_false, hV', cond_false]; exact hlast (fun s c => k s m m1 m2 c)⟩
    | false =>
      have hV' : (IntKind.wrap .i64 (((BitVec.toNat (BitVec.ofInt 64 (e : Int) &&& BitVec.ofInt 64 1)) : Nat) : Int) == 0) = true := bne_f hV
      by_cases h0 : m1 = 0
      · exact ⟨s, m, m1, m2, 4, rfl, hw, fun k => by rw [hk2, cond_false, hV, cond_false, oK_some_eq, cond_false, hV', cond_true, beq_dec, decide_eq_true (show (m1 : Int) = 0 by omega), cond_true]⟩
      · obtain ⟨x, hx⟩ := nth_some (l := l) (n := 0 + m) (by omega)
        obtain ⟨y, rfl, hy⟩ := hl x (nth_mem hx)
        have ey : IntKind.wrap .i64 ((y : Int) * 256) = ((y * 256 : Nat) : Int) := by rw [w64 (by omega) (by omega)]; omega
        have ey1 : IntKind.wrap .i64 (IntKind.wrap .i64 ((y : Int) + 1) * 256) = (((y + 1) * 256 : Nat) : Int) := by rw [w64 (n := (y : Int) + 1) (by omega) (by omega), w64 (by omega) (by omega)]; omega
        have eo : IntKind.wrap .i64 (((BitVec.toNat (BitVec.ofInt 64 ((y * 256 : Nat) : Int) ||| BitVec.ofInt 64 (1 : Int))) : Nat) : Int) = ((y * 256 ||| 1 : Nat) : Int) := or_nat (a := y * 256) (b := 1) (by omega) (by omega)
        have ho : y * 256 ||| 1 < 2 ^ 17 := Nat.or_lt_two_pow (by omega) (by omega)
        have hz : (toBytes (seg (List.replicate 256 (0 : Int)) 0 256)).size = 256 := by
          have hq := seg_all (List.replicate 256 (0 : Int))
          rw [List.length_replicate] at hq
          rw [hq, toBytes_size, List.length_replicate]
        have hS : ((s.extract 0 (y * 256) ++ toBytes (seg (List.replicate 256 (0 : Int)) 0 256)) ++ s.extract ((y + 1) * 256) s.size).size = s.size := by
          rw [ByteArray.size_append, ByteArray.size_append, hz, ByteArray.size_extract, ByteArray.size_extract]; omega
        have g1 : (s.extract 0 (y * 256)).size = y * 256 := by rw [ByteArray.size_extract]; omega
        have g2 : (s.extract ((y + 1) * 256) s.size).size = s.size - (y + 1) * 256 := by rw [ByteArray.size_extract]; omega
        have q1 : Nat.ble ((s.extract 0 (y * 256)).size + 256) 9223372036854775807 = true := ble_max (by rw [g1]; exact fr1 hy hs)
        have q2 : Nat.ble ((s.extract 0 (y * 256) ++ toBytes (seg (List.replicate 256 (0 : Int)) 0 256)).size + (s.extract ((y + 1) * 256) s.size).size) 9223372036854775807 = true := ble_max (by rw [ByteArray.size_append, g1, g2, hz]; exact fr2 hy hs)
        generalize hSS : (s.extract 0 (y * 256) ++ toBytes (seg (List.replicate 256 (0 : Int)) 0 256)) ++ s.extract ((y + 1) * 256) s.size = S at hS
        have hT := setWord_size (s := S) (i := r * 256 + 4 * (v / 8192)) (by omega) ((y * 256 ||| 1 : Nat) : Int)
        obtain ⟨s2, c2, hs2, hlast2⟩ := map_last (R := R) N (s := setWord S (r * 256 + 4 * (v / 8192)) ((y * 256 ||| 1 : Nat) : Int)) (e := y * 256 ||| 1) (v := v) (w := IntKind.wrap .i64 (((BitVec.toNat (BitVec.ofInt 64 (IntKind.wrap .i64 (((BitVec.toNat (BitVec.ofInt 64 (IntKind.wrap .i64 (n2 * 256)) ||| BitVec.ofInt 64 n3)) : Nat) : Int)) ||| BitVec.ofInt 64 1)) : Nat) : Int)) (by omega) (by omega) hv
        refine ⟨s2, 1 + m, (Int.toNat (m1 : Int)) - 1, (m1 + m2) - Int.toNat (m1 : Int), c2, by omega, by omega, fun k => ?_⟩
        rw [hk2, cond_false, hV, cond_false, oK_some_eq, cond_false, hV', cond_true, beq_dec, decide_eq_false (show ¬ (m1 : Int) = 0 by omega), cond_false, decide_eq_true (show (0 : Int) < (m1 : Int) by omega), cond_true, elemK_some hx,
          decide_eq_true (show (1 : Int) ≤ (m1 : Int) by omega), decide_eq_true (show (m1 : Int) ≤ ((m1 + m2 : Nat) : Int) by omega), Bool.and_self, cond_true, ey, ey1, eo, dec_nn, decide_eq_true (show ((y * 256 : Nat) : Int) ≤ (s.size : Int) by omega), Bool.and_self, cond_true, Int.toNat_natCast, Int.toNat_natCast, Int.toNat_natCast,
          q1, cond_true, dec_nn, decide_eq_true (show (((y + 1) * 256 : Nat) : Int) ≤ (s.size : Int) by omega), decide_eq_true (Int.le_refl (s.size : Int)), Bool.and_self, Bool.and_self, cond_true, q2, cond_true, hSS, spec_SetWord_eq N (by omega) (by omega)]
        exact hlast2 (fun s c => k s (1 + m) ((Int.toNat (m1 : Int)) - 1) ((m1 + m2) - Int.toNat (m1 : Int)) c)


theorem map_w {s : ByteArray} {r : Nat} {n1 n2 n3 : Int} {b b1 : Bool} {l : List Int} (hs : s.size ≤ 65536) (h256 : s.size % 256 = 0) (hr : r < s.size / 256) (hl : ∀ x ∈ l, ∃ y : Nat, x = (y : Int) ∧ y < s.size / 256) :
    ∃ (s' : ByteArray) (c : Int), s'.size = s.size ∧ ((∀ (k : ByteArray → Int → Option R) (k1 : ByteArray → Nat → Nat → Int → Option R), g_spec_l03Map_w N s (r : Int) n1 n2 n3 b b1 l k k1 = k s' c) ∨
      ∃ m' m1' : Nat, 1 + m' ≤ l.length ∧ ∀ (k : ByteArray → Int → Option R) (k1 : ByteArray → Nat → Nat → Int → Option R), g_spec_l03Map_w N s (r : Int) n1 n2 n3 b b1 l k k1 = k1 s' m' m1' c) := by
  have hj : ∀ (k : ByteArray → Int → Option R) (k1 : ByteArray → Nat → Nat → Int → Option R), g_spec_l03Map_w N s (r : Int) n1 n2 n3 b b1 l k k1 = oK (cond b (some (8192 : Int)) (some (256 : Int))) fun j => oK (cond (decide (n1 < 0)) (some true) (cond (decide (n1 ≥ 262144)) (some true) (mapForm n1 n2 n3 j b))) _ := fun k k1 => rfl
  by_cases hv0 : n1 < 0
  · exact ⟨s, 1, rfl, .inl (fun k k1 => by rw [hj]; cases b <;> (rw [decide_eq_true hv0]; rfl))⟩
  by_cases hv1 : n1 ≥ 262144
  · exact ⟨s, 1, rfl, .inl (fun k k1 => by rw [hj]; cases b <;> (rw [decide_eq_true hv1, decide_eq_false hv0]; rfl))⟩
  obtain ⟨v, rfl⟩ := Int.eq_ofNat_of_zero_le (show 0 ≤ n1 by omega)
  have hv : v < 262144 := by omega
  obtain ⟨bad, hbad⟩ := mapForm_ex (v : Int) n2 n3 (cond b 8192 256) b (by cases b <;> decide)
  have hc : (cond b (some (8192 : Int)) (some (256 : Int))) = some (cond b 8192 256) := by cases b <;> rfl
  have hk : ∀ (k : ByteArray → Int → Option R) (k1 : ByteArray → Nat → Nat → Int → Option R), g_spec_l03Map_w N s (r : Int) v n2 n3 b b1 l k k1 = cond bad (k s 1) _ := fun k k1 => by
    rw [hj, hc, oK_some_eq, decide_eq_false hv0, cond_false, decide_eq_false hv1, cond_false, hbad, oK_some_eq]
  cases bad with
  | true => exact ⟨s, 1, rfl, .inl (fun k k1 => by rw [hk]; rfl)⟩
  | false =>
  have hd : v / 8192 < 32 := by omega
  have hat : (r * 256 + 4 * (v / 8192)) + 4 ≤ s.size := by omega
  have he := wordN_lt s (r * 256 + 4 * (v / 8192))
  generalize hw0 : wordN s (r * 256 + 4 * (v / 8192)) = e at he
  have hk2 : ∀ (k : ByteArray → Int → Option R) (k1 : ByteArray → Nat → Nat → Int → Option R), g_spec_l03Map_w N s (r : Int) v n2 n3 b b1 l k k1 = _ := fun k k1 => by
    rw [hk, cond_false, at_eq (by omega) hv, spec_l01Word_eq N hat (by omega), wordN_cast, hw0]
  obtain ⟨s1, c1, hs1, hlast⟩ := map_last (R := R) N (s := s) (e := e) (v := v) (w := IntKind.wrap .i64 (((BitVec.toNat (BitVec.ofInt 64 (IntKind.wrap .i64 (((BitVec.toNat (BitVec.ofInt 64 (IntKind.wrap .i64 (n2 * 256)) ||| BitVec.ofInt 64 n3)) : Nat) : Int)) ||| BitVec.ofInt 64 1)) : Nat) : Int)) hs (by omega) hv
  cases b with
  | true =>
    cases hV : (IntKind.wrap .i64 (((BitVec.toNat (BitVec.ofInt 64 (e : Int) &&& BitVec.ofInt 64 1)) : Nat) : Int) != 0) with
    | true => exact ⟨s, 9, rfl, .inl (fun k k1 => by rw [hk2, cond_true, hV, cond_true])⟩
    | false => exact ⟨setWord s (r * 256 + 4 * (v / 8192)) _, 0, setWord_size hat _, .inl (fun k k1 => by rw [hk2, cond_true, hV, cond_false, spec_SetWord_eq N hat hs])⟩
  | false =>
    cases hV : (IntKind.wrap .i64 (((BitVec.toNat (BitVec.ofInt 64 (e : Int) &&& BitVec.ofInt 64 1)) : Nat) : Int) != 0) with
    | true =>
      have hV' : (IntKind.wrap .i64 (((BitVec.toNat (BitVec.ofInt 64 (e : Int) &&& BitVec.ofInt 64 1)) : Nat) : Int) == 0) = false := bne_t hV
      cases hL : (IntKind.wrap .i64 (((BitVec.toNat (BitVec.ofInt 64 (e : Int) &&& BitVec.ofInt 64 14)) : Nat) : Int) != 0) with
      | true => exact ⟨s, 9, rfl, .inl (fun k k1 => by rw [hk2, cond_false, hV, cond_true, oK_some_eq, hL, cond_true])⟩
      | false => exact ⟨s1, c1, hs1, .inl (fun k k1 => by rw [hk2, cond_false, hV, cond_true, oK_some_eq, hL, cond_false, hV', cond_false]; exact hlast k)⟩
    | false =>
      have hV' : (IntKind.wrap .i64 (((BitVec.toNat (BitVec.ofInt 64 (e : Int) &&& BitVec.ofInt 64 1)) : Nat) : Int) == 0) = true := bne_f hV
      by_cases h0 : l.length = 0
      · exact ⟨s, 4, rfl, .inl (fun k k1 => by rw [hk2, cond_false, hV, cond_false, oK_some_eq, cond_false, hV', cond_true, beq_dec, decide_eq_true (show (l.length : Int) = 0 by omega), cond_true])⟩
      · obtain ⟨x, hx⟩ := nth_some (l := l) (n := 0) (by omega)
        obtain ⟨y, rfl, hy⟩ := hl x (nth_mem hx)
        have ey : IntKind.wrap .i64 ((y : Int) * 256) = ((y * 256 : Nat) : Int) := by rw [w64 (by omega) (by omega)]; omega
        have ey1 : IntKind.wrap .i64 (IntKind.wrap .i64 ((y : Int) + 1) * 256) = (((y + 1) * 256 : Nat) : Int) := by rw [w64 (n := (y : Int) + 1) (by omega) (by omega), w64 (by omega) (by omega)]; omega
        have eo : IntKind.wrap .i64 (((BitVec.toNat (BitVec.ofInt 64 ((y * 256 : Nat) : Int) ||| BitVec.ofInt 64 (1 : Int))) : Nat) : Int) = ((y * 256 ||| 1 : Nat) : Int) := or_nat (a := y * 256) (b := 1) (by omega) (by omega)
        have ho : y * 256 ||| 1 < 2 ^ 17 := Nat.or_lt_two_pow (by omega) (by omega)
        have hz : (toBytes (seg (List.replicate 256 (0 : Int)) 0 256)).size = 256 := by
          have hq := seg_all (List.replicate 256 (0 : Int))
          rw [List.length_replicate] at hq
          rw [hq, toBytes_size, List.length_replicate]
        have hS : ((s.extract 0 (y * 256) ++ toBytes (seg (List.replicate 256 (0 : Int)) 0 256)) ++ s.extract ((y + 1) * 256) s.size).size = s.size := by
          rw [ByteArray.size_append, ByteArray.size_append, hz, ByteArray.size_extract, ByteArray.size_extract]; omega
        have g1 : (s.extract 0 (y * 256)).size = y * 256 := by rw [ByteArray.size_extract]; omega
        have g2 : (s.extract ((y + 1) * 256) s.size).size = s.size - (y + 1) * 256 := by rw [ByteArray.size_extract]; omega
        have q1 : Nat.ble ((s.extract 0 (y * 256)).size + 256) 9223372036854775807 = true := ble_max (by rw [g1]; exact fr1 hy hs)
        have q2 : Nat.ble ((s.extract 0 (y * 256) ++ toBytes (seg (List.replicate 256 (0 : Int)) 0 256)).size + (s.extract ((y + 1) * 256) s.size).size) 9223372036854775807 = true := ble_max (by rw [ByteArray.size_append, g1, g2, hz]; exact fr2 hy hs)
        generalize hSS : (s.extract 0 (y * 256) ++ toBytes (seg (List.replicate 256 (0 : Int)) 0 256)) ++ s.extract ((y + 1) * 256) s.size = S at hS
        have hT := setWord_size (s := S) (i := r * 256 + 4 * (v / 8192)) (by omega) ((y * 256 ||| 1 : Nat) : Int)
        obtain ⟨s2, c2, hs2, hlast2⟩ := map_last (R := R) N (s := setWord S (r * 256 + 4 * (v / 8192)) ((y * 256 ||| 1 : Nat) : Int)) (e := y * 256 ||| 1) (v := v) (w := IntKind.wrap .i64 (((BitVec.toNat (BitVec.ofInt 64 (IntKind.wrap .i64 (((BitVec.toNat (BitVec.ofInt 64 (IntKind.wrap .i64 (n2 * 256)) ||| BitVec.ofInt 64 n3)) : Nat) : Int)) ||| BitVec.ofInt 64 1)) : Nat) : Int)) (by omega) (by omega) hv
        refine ⟨s2, c2, by omega, .inr ⟨(Int.toNat (l.length : Int)) - 1, l.length - Int.toNat (l.length : Int), by omega, fun k k1 => ?_⟩⟩
        rw [hk2, cond_false, hV, cond_false, oK_some_eq, cond_false, hV', cond_true, beq_dec, decide_eq_false (show ¬ (l.length : Int) = 0 by omega), cond_false, decide_eq_true (show (0 : Int) < (l.length : Int) by omega), cond_true, elemK_some hx,
          decide_eq_true (show (1 : Int) ≤ (l.length : Int) by omega), decide_eq_true (Int.le_refl (l.length : Int)), Bool.and_self, cond_true, ey, ey1, eo, dec_nn, decide_eq_true (show ((y * 256 : Nat) : Int) ≤ (s.size : Int) by omega), Bool.and_self, cond_true, Int.toNat_natCast, Int.toNat_natCast, Int.toNat_natCast,
          q1, cond_true, dec_nn, decide_eq_true (show (((y + 1) * 256 : Nat) : Int) ≤ (s.size : Int) by omega), decide_eq_true (Int.le_refl (s.size : Int)), Bool.and_self, Bool.and_self, cond_true, q2, cond_true, hSS, spec_SetWord_eq N (by omega) (by omega)]
        exact hlast2 (fun s c => k1 s ((Int.toNat (l.length : Int)) - 1) (l.length - Int.toNat (l.length : Int)) c)


theorem mapsv_ww_go {r : Nat} {b11 b12 b13 : Bool} {l10 : List PageMap} {l11 l12 l13 : List Int} {n14 n15 : Int} {s8 : ByteArray} (hlen : l10.length ≤ 1000) :
    ∀ (d f i : Nat) (s : ByteArray) (m m1 m2 : Nat), i + d = l10.length → d < f → s.size ≤ 65536 → s.size % 256 = 0 → r < s.size / 256 → m + m1 ≤ l13.length → (∀ x ∈ l13, ∃ y : Nat, x = (y : Int) ∧ y < s.size / 256) →
    ∃ (s' : ByteArray) (m' m1' m2' : Nat), s'.size = s.size ∧ m' + m1' ≤ l13.length ∧
      ((∃ c p : Int, c ≠ 0 ∧ ∀ (kR : ByteArray → Nat → Nat → Nat → Bool → (List PageMap) → (List Int) → Int → Int → (List Int) → Option R) (kN : ByteArray → Nat → Nat → Nat → Bool → (List PageMap) → (List Int) → Int → Int → ByteArray → Bool → (List Int) → (List Int) → Option R), l_spec_MapPages_ww_2 N (r : Int) b11 b12 l10 l11 n14 n15 s8 b13 l12 l13 kR kN f s m m1 m2 (i : Int) = kR s' m' m1' m2' b12 l10 l11 c p l13) ∨
       ∀ (kR : ByteArray → Nat → Nat → Nat → Bool → (List PageMap) → (List Int) → Int → Int → (List Int) → Option R) (kN : ByteArray → Nat → Nat → Nat → Bool → (List PageMap) → (List Int) → Int → Int → ByteArray → Bool → (List Int) → (List Int) → Option R), l_spec_MapPages_ww_2 N (r : Int) b11 b12 l10 l11 n14 n15 s8 b13 l12 l13 kR kN f s m m1 m2 (i : Int) = kN s' m' m1' m2' b12 l10 l11 n14 n15 s8 b13 l12 l13) := by
  intro d
  induction d with
  | zero =>
    intro f i s m m1 m2 hi hf _ _ _ hw _
    obtain ⟨f, rfl⟩ : ∃ j, f = j + 1 := ⟨f - 1, by omega⟩
    refine ⟨s, m, m1, m2, rfl, hw, .inr fun kR kN => ?_⟩
    rw [l_spec_MapPages_ww_2, s_spec_MapPages_ww_2, decide_eq_false (show ¬ (i : Int) < (l10.length : Int) by omega), cond_false]
  | succ d ih =>
    intro f i s m m1 m2 hi hf hs h256 hr hw hl
    obtain ⟨f, rfl⟩ : ∃ j, f = j + 1 := ⟨f - 1, by omega⟩
    have hlt : i < l10.length := by omega
    obtain ⟨x, hx⟩ := nth_some hlt
    obtain ⟨s1, p, p1, p2, c, hs1, hw1, h1⟩ := map_v1 (R := R) N (n1 := x.fVa) (n2 := x.fFrame) (n3 := x.fFlags) (b := x.fLarge) (b1 := b12) (m2 := m2) hs h256 hr hw hl
    cases hc : (c != 0) with
    | true =>
      refine ⟨s1, p, p1, p2, hs1, hw1, .inl ⟨c, (i : Int), by simpa using hc, fun kR kN => ?_⟩⟩
      rw [l_spec_MapPages_ww_2, s_spec_MapPages_ww_2, dec_lt hlt, cond_true, dec_nn, Bool.and_self, cond_true, Int.toNat_natCast, elemK_some hx, h1, hc, cond_true]
    | false =>
      obtain ⟨s', m', m1', m2', g1, g2, g3⟩ := ih f (i + 1) s1 p p1 p2 (by omega) (by omega) (by omega) (by omega) (by omega) hw1 (by rw [hs1]; exact hl)
      have hst : ∀ (kR : ByteArray → Nat → Nat → Nat → Bool → (List PageMap) → (List Int) → Int → Int → (List Int) → Option R) (kN : ByteArray → Nat → Nat → Nat → Bool → (List PageMap) → (List Int) → Int → Int → ByteArray → Bool → (List Int) → (List Int) → Option R), l_spec_MapPages_ww_2 N (r : Int) b11 b12 l10 l11 n14 n15 s8 b13 l12 l13 kR kN (f + 1) s m m1 m2 (i : Int) = l_spec_MapPages_ww_2 N (r : Int) b11 b12 l10 l11 n14 n15 s8 b13 l12 l13 kR kN f s1 p p1 p2 ((i + 1 : Nat) : Int) := fun kR kN => by
        rw [l_spec_MapPages_ww_2, s_spec_MapPages_ww_2, dec_lt hlt, cond_true, dec_nn, Bool.and_self, cond_true, Int.toNat_natCast, elemK_some hx, h1, hc, cond_false, wrap_next hlt (by omega)]
      refine ⟨s', m', m1', m2', by omega, g2, ?_⟩
      rcases g3 with ⟨c', q, hc', g3⟩ | g3
      · exact .inl ⟨c', q, hc', fun kR kN => by rw [hst]; exact g3 kR kN⟩
      · exact .inr fun kR kN => by rw [hst]; exact g3 kR kN

theorem mapsv_rw_go {r : Nat} {b11 b12 b13 : Bool} {l10 : List PageMap} {l11 l12 l13 : List Int} {n14 n15 : Int} {s8 : ByteArray} (hlen : l10.length ≤ 1000) :
    ∀ (d f i : Nat) (s : ByteArray) (m m1 m2 : Nat), i + d = l10.length → d < f → s.size ≤ 65536 → s.size % 256 = 0 → r < s.size / 256 → m + m1 ≤ l13.length → (∀ x ∈ l13, ∃ y : Nat, x = (y : Int) ∧ y < s.size / 256) →
    ∃ (s' : ByteArray) (m' m1' m2' : Nat), s'.size = s.size ∧ m' + m1' ≤ l13.length ∧
      ((∃ c p : Int, c ≠ 0 ∧ ∀ (kR : ByteArray → Nat → Nat → Nat → Bool → (List PageMap) → (List Int) → Int → Int → (List Int) → Option R) (kN : ByteArray → Nat → Nat → Nat → Bool → (List PageMap) → (List Int) → Int → Int → ByteArray → Bool → (List Int) → (List Int) → Option R), l_spec_MapPages_rw_2 N (r : Int) b11 b12 l10 l11 n14 n15 s8 b13 l12 l13 kR kN f s m m1 m2 (i : Int) = kR s' m' m1' m2' b12 l10 l11 c p l13) ∨
       ∀ (kR : ByteArray → Nat → Nat → Nat → Bool → (List PageMap) → (List Int) → Int → Int → (List Int) → Option R) (kN : ByteArray → Nat → Nat → Nat → Bool → (List PageMap) → (List Int) → Int → Int → ByteArray → Bool → (List Int) → (List Int) → Option R), l_spec_MapPages_rw_2 N (r : Int) b11 b12 l10 l11 n14 n15 s8 b13 l12 l13 kR kN f s m m1 m2 (i : Int) = kN s' m' m1' m2' b12 l10 l11 n14 n15 s8 b13 l12 l13) := by
  intro d
  induction d with
  | zero =>
    intro f i s m m1 m2 hi hf _ _ _ hw _
    obtain ⟨f, rfl⟩ : ∃ j, f = j + 1 := ⟨f - 1, by omega⟩
    refine ⟨s, m, m1, m2, rfl, hw, .inr fun kR kN => ?_⟩
    rw [l_spec_MapPages_rw_2, s_spec_MapPages_rw_2, decide_eq_false (show ¬ (i : Int) < (l10.length : Int) by omega), cond_false]
  | succ d ih =>
    intro f i s m m1 m2 hi hf hs h256 hr hw hl
    obtain ⟨f, rfl⟩ : ∃ j, f = j + 1 := ⟨f - 1, by omega⟩
    have hlt : i < l10.length := by omega
    obtain ⟨x, hx⟩ := nth_some hlt
    obtain ⟨s1, p, p1, p2, c, hs1, hw1, h1⟩ := map_v1 (R := R) N (n1 := x.fVa) (n2 := x.fFrame) (n3 := x.fFlags) (b := x.fLarge) (b1 := b12) (m2 := m2) hs h256 hr hw hl
    cases hc : (c != 0) with
    | true =>
      refine ⟨s1, p, p1, p2, hs1, hw1, .inl ⟨c, (i : Int), by simpa using hc, fun kR kN => ?_⟩⟩
      rw [l_spec_MapPages_rw_2, s_spec_MapPages_rw_2, dec_lt hlt, cond_true, dec_nn, Bool.and_self, cond_true, Int.toNat_natCast, elemK_some hx, h1, hc, cond_true]
    | false =>
      obtain ⟨s', m', m1', m2', g1, g2, g3⟩ := ih f (i + 1) s1 p p1 p2 (by omega) (by omega) (by omega) (by omega) (by omega) hw1 (by rw [hs1]; exact hl)
      have hst : ∀ (kR : ByteArray → Nat → Nat → Nat → Bool → (List PageMap) → (List Int) → Int → Int → (List Int) → Option R) (kN : ByteArray → Nat → Nat → Nat → Bool → (List PageMap) → (List Int) → Int → Int → ByteArray → Bool → (List Int) → (List Int) → Option R), l_spec_MapPages_rw_2 N (r : Int) b11 b12 l10 l11 n14 n15 s8 b13 l12 l13 kR kN (f + 1) s m m1 m2 (i : Int) = l_spec_MapPages_rw_2 N (r : Int) b11 b12 l10 l11 n14 n15 s8 b13 l12 l13 kR kN f s1 p p1 p2 ((i + 1 : Nat) : Int) := fun kR kN => by
        rw [l_spec_MapPages_rw_2, s_spec_MapPages_rw_2, dec_lt hlt, cond_true, dec_nn, Bool.and_self, cond_true, Int.toNat_natCast, elemK_some hx, h1, hc, cond_false, wrap_next hlt (by omega)]
      refine ⟨s', m', m1', m2', by omega, g2, ?_⟩
      rcases g3 with ⟨c', q, hc', g3⟩ | g3
      · exact .inl ⟨c', q, hc', fun kR kN => by rw [hst]; exact g3 kR kN⟩
      · exact .inr fun kR kN => by rw [hst]; exact g3 kR kN


theorem mapsw_ww_go {r : Nat} {b8 b9 b10 : Bool} {l6 : List PageMap} {l7 l8 l9 : List Int} {n8 n9 : Int} {s4 : ByteArray} (hlen : l6.length ≤ 1000) :
    ∀ (d f i : Nat) (s : ByteArray), i + d = l6.length → d < f → s.size ≤ 65536 → s.size % 256 = 0 → r < s.size / 256 → (∀ x ∈ l9, ∃ y : Nat, x = (y : Int) ∧ y < s.size / 256) →
    ∃ s' : ByteArray, s'.size = s.size ∧
      ((∃ c p : Int, c ≠ 0 ∧ ∀ (kRb : ByteArray → Int → Int → Option R) (kRb_1 : ByteArray → Nat → Nat → Int → Int → Option R) (kNb : ByteArray → Option R) (kR : ByteArray → Nat → Nat → Nat → Bool → (List PageMap) → (List Int) → Int → Int → (List Int) → Option R) (kN : ByteArray → Nat → Nat → Nat → Bool → (List PageMap) → (List Int) → Int → Int → ByteArray → Bool → (List Int) → (List Int) → Option R), l_spec_MapPages_ww_2b1 N (r : Int) b8 b9 l6 l7 n8 n9 s4 b10 l8 l9 kRb kRb_1 kNb kR kN f s (i : Int) = kRb s' c p) ∨
       (∃ (m m1 : Nat) (c p : Int), c ≠ 0 ∧ ∀ (kRb : ByteArray → Int → Int → Option R) (kRb_1 : ByteArray → Nat → Nat → Int → Int → Option R) (kNb : ByteArray → Option R) (kR : ByteArray → Nat → Nat → Nat → Bool → (List PageMap) → (List Int) → Int → Int → (List Int) → Option R) (kN : ByteArray → Nat → Nat → Nat → Bool → (List PageMap) → (List Int) → Int → Int → ByteArray → Bool → (List Int) → (List Int) → Option R), l_spec_MapPages_ww_2b1 N (r : Int) b8 b9 l6 l7 n8 n9 s4 b10 l8 l9 kRb kRb_1 kNb kR kN f s (i : Int) = kRb_1 s' m m1 c p) ∨
       (∀ (kRb : ByteArray → Int → Int → Option R) (kRb_1 : ByteArray → Nat → Nat → Int → Int → Option R) (kNb : ByteArray → Option R) (kR : ByteArray → Nat → Nat → Nat → Bool → (List PageMap) → (List Int) → Int → Int → (List Int) → Option R) (kN : ByteArray → Nat → Nat → Nat → Bool → (List PageMap) → (List Int) → Int → Int → ByteArray → Bool → (List Int) → (List Int) → Option R), l_spec_MapPages_ww_2b1 N (r : Int) b8 b9 l6 l7 n8 n9 s4 b10 l8 l9 kRb kRb_1 kNb kR kN f s (i : Int) = kNb s') ∨
       (∃ (m m1 m2 : Nat) (c p : Int), c ≠ 0 ∧ ∀ (kRb : ByteArray → Int → Int → Option R) (kRb_1 : ByteArray → Nat → Nat → Int → Int → Option R) (kNb : ByteArray → Option R) (kR : ByteArray → Nat → Nat → Nat → Bool → (List PageMap) → (List Int) → Int → Int → (List Int) → Option R) (kN : ByteArray → Nat → Nat → Nat → Bool → (List PageMap) → (List Int) → Int → Int → ByteArray → Bool → (List Int) → (List Int) → Option R), l_spec_MapPages_ww_2b1 N (r : Int) b8 b9 l6 l7 n8 n9 s4 b10 l8 l9 kRb kRb_1 kNb kR kN f s (i : Int) = kR s' m m1 m2 b9 l6 l7 c p l9) ∨
       (∃ (m m1 m2 : Nat), m + m1 ≤ l9.length ∧ ∀ (kRb : ByteArray → Int → Int → Option R) (kRb_1 : ByteArray → Nat → Nat → Int → Int → Option R) (kNb : ByteArray → Option R) (kR : ByteArray → Nat → Nat → Nat → Bool → (List PageMap) → (List Int) → Int → Int → (List Int) → Option R) (kN : ByteArray → Nat → Nat → Nat → Bool → (List PageMap) → (List Int) → Int → Int → ByteArray → Bool → (List Int) → (List Int) → Option R), l_spec_MapPages_ww_2b1 N (r : Int) b8 b9 l6 l7 n8 n9 s4 b10 l8 l9 kRb kRb_1 kNb kR kN f s (i : Int) = kN s' m m1 m2 b9 l6 l7 n8 n9 s4 b10 l8 l9)) := by
  intro d
  induction d with
  | zero =>
    intro f i s hi hf _ _ _ _
    obtain ⟨f, rfl⟩ : ∃ j, f = j + 1 := ⟨f - 1, by omega⟩
    refine ⟨s, rfl, .inr (.inr (.inl fun kRb kRb_1 kNb kR kN => ?_))⟩
    rw [l_spec_MapPages_ww_2b1, s_spec_MapPages_ww_2b1, decide_eq_false (show ¬ (i : Int) < (l6.length : Int) by omega), cond_false]
  | succ d ih =>
    intro f i s hi hf hs h256 hr hl
    obtain ⟨f, rfl⟩ : ∃ j, f = j + 1 := ⟨f - 1, by omega⟩
    have hlt : i < l6.length := by omega
    obtain ⟨x, hx⟩ := nth_some hlt
    obtain ⟨s1, c, hs1, h1⟩ := map_w (R := R) N (n1 := x.fVa) (n2 := x.fFrame) (n3 := x.fFlags) (b := x.fLarge) (b1 := b9) hs h256 hr hl
    rcases h1 with h1 | ⟨p, p1, hp, h1⟩
    · cases hc : (c != 0) with
      | true =>
        refine ⟨s1, hs1, .inl ⟨c, (i : Int), by simpa using hc, fun kRb kRb_1 kNb kR kN => ?_⟩⟩
        rw [l_spec_MapPages_ww_2b1, s_spec_MapPages_ww_2b1, dec_lt hlt, cond_true, dec_nn, Bool.and_self, cond_true, Int.toNat_natCast, elemK_some hx, h1, hc, cond_true]
      | false =>
        obtain ⟨s', g1, g3⟩ := ih f (i + 1) s1 (by omega) (by omega) (by omega) (by omega) (by omega) (by rw [hs1]; exact hl)
        have hst : ∀ (kRb : ByteArray → Int → Int → Option R) (kRb_1 : ByteArray → Nat → Nat → Int → Int → Option R) (kNb : ByteArray → Option R) (kR : ByteArray → Nat → Nat → Nat → Bool → (List PageMap) → (List Int) → Int → Int → (List Int) → Option R) (kN : ByteArray → Nat → Nat → Nat → Bool → (List PageMap) → (List Int) → Int → Int → ByteArray → Bool → (List Int) → (List Int) → Option R), l_spec_MapPages_ww_2b1 N (r : Int) b8 b9 l6 l7 n8 n9 s4 b10 l8 l9 kRb kRb_1 kNb kR kN (f + 1) s (i : Int) = l_spec_MapPages_ww_2b1 N (r : Int) b8 b9 l6 l7 n8 n9 s4 b10 l8 l9 kRb kRb_1 kNb kR kN f s1 ((i + 1 : Nat) : Int) := fun kRb kRb_1 kNb kR kN => by
          rw [l_spec_MapPages_ww_2b1, s_spec_MapPages_ww_2b1, dec_lt hlt, cond_true, dec_nn, Bool.and_self, cond_true, Int.toNat_natCast, elemK_some hx, h1, hc, cond_false, wrap_next hlt (by omega)]
        refine ⟨s', by omega, ?_⟩
        rcases g3 with ⟨c', q, hc', g3⟩ | ⟨m, m1, c', q, hc', g3⟩ | g3 | ⟨m, m1, m2, c', q, hc', g3⟩ | ⟨m, m1, m2, hm, g3⟩
        · exact .inl ⟨c', q, hc', fun kRb kRb_1 kNb kR kN => by rw [hst]; exact g3 _ _ _ _ _⟩
        · exact .inr (.inl ⟨m, m1, c', q, hc', fun kRb kRb_1 kNb kR kN => by rw [hst]; exact g3 _ _ _ _ _⟩)
        · exact .inr (.inr (.inl fun kRb kRb_1 kNb kR kN => by rw [hst]; exact g3 _ _ _ _ _))
        · exact .inr (.inr (.inr (.inl ⟨m, m1, m2, c', q, hc', fun kRb kRb_1 kNb kR kN => by rw [hst]; exact g3 _ _ _ _ _⟩)))
        · exact .inr (.inr (.inr (.inr ⟨m, m1, m2, hm, fun kRb kRb_1 kNb kR kN => by rw [hst]; exact g3 _ _ _ _ _⟩)))
    · cases hc : (c != 0) with
      | true =>
        refine ⟨s1, hs1, .inr (.inl ⟨p, p1, c, (i : Int), by simpa using hc, fun kRb kRb_1 kNb kR kN => ?_⟩)⟩
        rw [l_spec_MapPages_ww_2b1, s_spec_MapPages_ww_2b1, dec_lt hlt, cond_true, dec_nn, Bool.and_self, cond_true, Int.toNat_natCast, elemK_some hx, h1, hc, cond_true]
      | false =>
        obtain ⟨s', m', m1', m2', g1, g2, g3⟩ := mapsv_ww_go (R := R) N (r := r) (b11 := b8) (b12 := b9) (b13 := b10) (l10 := l6) (l11 := l7) (l12 := l8) (l13 := l9) (n14 := n8) (n15 := n9) (s8 := s4) hlen d f (i + 1) s1 1 p p1 (by omega) (by omega) (by omega) (by omega) (by omega) hp (by rw [hs1]; exact hl)
        have hst : ∀ (kRb : ByteArray → Int → Int → Option R) (kRb_1 : ByteArray → Nat → Nat → Int → Int → Option R) (kNb : ByteArray → Option R) (kR : ByteArray → Nat → Nat → Nat → Bool → (List PageMap) → (List Int) → Int → Int → (List Int) → Option R) (kN : ByteArray → Nat → Nat → Nat → Bool → (List PageMap) → (List Int) → Int → Int → ByteArray → Bool → (List Int) → (List Int) → Option R), l_spec_MapPages_ww_2b1 N (r : Int) b8 b9 l6 l7 n8 n9 s4 b10 l8 l9 kRb kRb_1 kNb kR kN (f + 1) s (i : Int) = l_spec_MapPages_ww_2 N (r : Int) b8 b9 l6 l7 n8 n9 s4 b10 l8 l9 kR kN f s1 1 p p1 ((i + 1 : Nat) : Int) := fun kRb kRb_1 kNb kR kN => by
          rw [l_spec_MapPages_ww_2b1, s_spec_MapPages_ww_2b1, dec_lt hlt, cond_true, dec_nn, Bool.and_self, cond_true, Int.toNat_natCast, elemK_some hx, h1, hc, cond_false, wrap_next hlt (by omega)]
        refine ⟨s', by omega, ?_⟩
        rcases g3 with ⟨c', q, hc', g3⟩ | g3
        · exact .inr (.inr (.inr (.inl ⟨m', m1', m2', c', q, hc', fun kRb kRb_1 kNb kR kN => by rw [hst]; exact g3 _ _⟩)))
        · exact .inr (.inr (.inr (.inr ⟨m', m1', m2', g2, fun kRb kRb_1 kNb kR kN => by rw [hst]; exact g3 _ _⟩)))

theorem mapsw_rw_go {r : Nat} {b8 b9 b10 : Bool} {l6 : List PageMap} {l7 l8 l9 : List Int} {n8 n9 : Int} {s4 : ByteArray} (hlen : l6.length ≤ 1000) :
    ∀ (d f i : Nat) (s : ByteArray), i + d = l6.length → d < f → s.size ≤ 65536 → s.size % 256 = 0 → r < s.size / 256 → (∀ x ∈ l9, ∃ y : Nat, x = (y : Int) ∧ y < s.size / 256) →
    ∃ s' : ByteArray, s'.size = s.size ∧
      ((∃ c p : Int, c ≠ 0 ∧ ∀ (kRb : ByteArray → Int → Int → Option R) (kRb_1 : ByteArray → Nat → Nat → Int → Int → Option R) (kNb : ByteArray → Option R) (kR : ByteArray → Nat → Nat → Nat → Bool → (List PageMap) → (List Int) → Int → Int → (List Int) → Option R) (kN : ByteArray → Nat → Nat → Nat → Bool → (List PageMap) → (List Int) → Int → Int → ByteArray → Bool → (List Int) → (List Int) → Option R), l_spec_MapPages_rw_2b1 N (r : Int) b8 b9 l6 l7 n8 n9 s4 b10 l8 l9 kRb kRb_1 kNb kR kN f s (i : Int) = kRb s' c p) ∨
       (∃ (m m1 : Nat) (c p : Int), c ≠ 0 ∧ ∀ (kRb : ByteArray → Int → Int → Option R) (kRb_1 : ByteArray → Nat → Nat → Int → Int → Option R) (kNb : ByteArray → Option R) (kR : ByteArray → Nat → Nat → Nat → Bool → (List PageMap) → (List Int) → Int → Int → (List Int) → Option R) (kN : ByteArray → Nat → Nat → Nat → Bool → (List PageMap) → (List Int) → Int → Int → ByteArray → Bool → (List Int) → (List Int) → Option R), l_spec_MapPages_rw_2b1 N (r : Int) b8 b9 l6 l7 n8 n9 s4 b10 l8 l9 kRb kRb_1 kNb kR kN f s (i : Int) = kRb_1 s' m m1 c p) ∨
       (∀ (kRb : ByteArray → Int → Int → Option R) (kRb_1 : ByteArray → Nat → Nat → Int → Int → Option R) (kNb : ByteArray → Option R) (kR : ByteArray → Nat → Nat → Nat → Bool → (List PageMap) → (List Int) → Int → Int → (List Int) → Option R) (kN : ByteArray → Nat → Nat → Nat → Bool → (List PageMap) → (List Int) → Int → Int → ByteArray → Bool → (List Int) → (List Int) → Option R), l_spec_MapPages_rw_2b1 N (r : Int) b8 b9 l6 l7 n8 n9 s4 b10 l8 l9 kRb kRb_1 kNb kR kN f s (i : Int) = kNb s') ∨
       (∃ (m m1 m2 : Nat) (c p : Int), c ≠ 0 ∧ ∀ (kRb : ByteArray → Int → Int → Option R) (kRb_1 : ByteArray → Nat → Nat → Int → Int → Option R) (kNb : ByteArray → Option R) (kR : ByteArray → Nat → Nat → Nat → Bool → (List PageMap) → (List Int) → Int → Int → (List Int) → Option R) (kN : ByteArray → Nat → Nat → Nat → Bool → (List PageMap) → (List Int) → Int → Int → ByteArray → Bool → (List Int) → (List Int) → Option R), l_spec_MapPages_rw_2b1 N (r : Int) b8 b9 l6 l7 n8 n9 s4 b10 l8 l9 kRb kRb_1 kNb kR kN f s (i : Int) = kR s' m m1 m2 b9 l6 l7 c p l9) ∨
       (∃ (m m1 m2 : Nat), m + m1 ≤ l9.length ∧ ∀ (kRb : ByteArray → Int → Int → Option R) (kRb_1 : ByteArray → Nat → Nat → Int → Int → Option R) (kNb : ByteArray → Option R) (kR : ByteArray → Nat → Nat → Nat → Bool → (List PageMap) → (List Int) → Int → Int → (List Int) → Option R) (kN : ByteArray → Nat → Nat → Nat → Bool → (List PageMap) → (List Int) → Int → Int → ByteArray → Bool → (List Int) → (List Int) → Option R), l_spec_MapPages_rw_2b1 N (r : Int) b8 b9 l6 l7 n8 n9 s4 b10 l8 l9 kRb kRb_1 kNb kR kN f s (i : Int) = kN s' m m1 m2 b9 l6 l7 n8 n9 s4 b10 l8 l9)) := by
  intro d
  induction d with
  | zero =>
    intro f i s hi hf _ _ _ _
    obtain ⟨f, rfl⟩ : ∃ j, f = j + 1 := ⟨f - 1, by omega⟩
    refine ⟨s, rfl, .inr (.inr (.inl fun kRb kRb_1 kNb kR kN => ?_))⟩
    rw [l_spec_MapPages_rw_2b1, s_spec_MapPages_rw_2b1, decide_eq_false (show ¬ (i : Int) < (l6.length : Int) by omega), cond_false]
  | succ d ih =>
    intro f i s hi hf hs h256 hr hl
    obtain ⟨f, rfl⟩ : ∃ j, f = j + 1 := ⟨f - 1, by omega⟩
    have hlt : i < l6.length := by omega
    obtain ⟨x, hx⟩ := nth_some hlt
    obtain ⟨s1, c, hs1, h1⟩ := map_w (R := R) N (n1 := x.fVa) (n2 := x.fFrame) (n3 := x.fFlags) (b := x.fLarge) (b1 := b9) hs h256 hr hl
    rcases h1 with h1 | ⟨p, p1, hp, h1⟩
    · cases hc : (c != 0) with
      | true =>
        refine ⟨s1, hs1, .inl ⟨c, (i : Int), by simpa using hc, fun kRb kRb_1 kNb kR kN => ?_⟩⟩
        rw [l_spec_MapPages_rw_2b1, s_spec_MapPages_rw_2b1, dec_lt hlt, cond_true, dec_nn, Bool.and_self, cond_true, Int.toNat_natCast, elemK_some hx, h1, hc, cond_true]
      | false =>
        obtain ⟨s', g1, g3⟩ := ih f (i + 1) s1 (by omega) (by omega) (by omega) (by omega) (by omega) (by rw [hs1]; exact hl)
        have hst : ∀ (kRb : ByteArray → Int → Int → Option R) (kRb_1 : ByteArray → Nat → Nat → Int → Int → Option R) (kNb : ByteArray → Option R) (kR : ByteArray → Nat → Nat → Nat → Bool → (List PageMap) → (List Int) → Int → Int → (List Int) → Option R) (kN : ByteArray → Nat → Nat → Nat → Bool → (List PageMap) → (List Int) → Int → Int → ByteArray → Bool → (List Int) → (List Int) → Option R), l_spec_MapPages_rw_2b1 N (r : Int) b8 b9 l6 l7 n8 n9 s4 b10 l8 l9 kRb kRb_1 kNb kR kN (f + 1) s (i : Int) = l_spec_MapPages_rw_2b1 N (r : Int) b8 b9 l6 l7 n8 n9 s4 b10 l8 l9 kRb kRb_1 kNb kR kN f s1 ((i + 1 : Nat) : Int) := fun kRb kRb_1 kNb kR kN => by
          rw [l_spec_MapPages_rw_2b1, s_spec_MapPages_rw_2b1, dec_lt hlt, cond_true, dec_nn, Bool.and_self, cond_true, Int.toNat_natCast, elemK_some hx, h1, hc, cond_false, wrap_next hlt (by omega)]
        refine ⟨s', by omega, ?_⟩
        rcases g3 with ⟨c', q, hc', g3⟩ | ⟨m, m1, c', q, hc', g3⟩ | g3 | ⟨m, m1, m2, c', q, hc', g3⟩ | ⟨m, m1, m2, hm, g3⟩
        · exact .inl ⟨c', q, hc', fun kRb kRb_1 kNb kR kN => by rw [hst]; exact g3 _ _ _ _ _⟩
        · exact .inr (.inl ⟨m, m1, c', q, hc', fun kRb kRb_1 kNb kR kN => by rw [hst]; exact g3 _ _ _ _ _⟩)
        · exact .inr (.inr (.inl fun kRb kRb_1 kNb kR kN => by rw [hst]; exact g3 _ _ _ _ _))
        · exact .inr (.inr (.inr (.inl ⟨m, m1, m2, c', q, hc', fun kRb kRb_1 kNb kR kN => by rw [hst]; exact g3 _ _ _ _ _⟩)))
        · exact .inr (.inr (.inr (.inr ⟨m, m1, m2, hm, fun kRb kRb_1 kNb kR kN => by rw [hst]; exact g3 _ _ _ _ _⟩)))
    · cases hc : (c != 0) with
      | true =>
        refine ⟨s1, hs1, .inr (.inl ⟨p, p1, c, (i : Int), by simpa using hc, fun kRb kRb_1 kNb kR kN => ?_⟩)⟩
        rw [l_spec_MapPages_rw_2b1, s_spec_MapPages_rw_2b1, dec_lt hlt, cond_true, dec_nn, Bool.and_self, cond_true, Int.toNat_natCast, elemK_some hx, h1, hc, cond_true]
      | false =>
        obtain ⟨s', m', m1', m2', g1, g2, g3⟩ := mapsv_rw_go (R := R) N (r := r) (b11 := b8) (b12 := b9) (b13 := b10) (l10 := l6) (l11 := l7) (l12 := l8) (l13 := l9) (n14 := n8) (n15 := n9) (s8 := s4) hlen d f (i + 1) s1 1 p p1 (by omega) (by omega) (by omega) (by omega) (by omega) hp (by rw [hs1]; exact hl)
        have hst : ∀ (kRb : ByteArray → Int → Int → Option R) (kRb_1 : ByteArray → Nat → Nat → Int → Int → Option R) (kNb : ByteArray → Option R) (kR : ByteArray → Nat → Nat → Nat → Bool → (List PageMap) → (List Int) → Int → Int → (List Int) → Option R) (kN : ByteArray → Nat → Nat → Nat → Bool → (List PageMap) → (List Int) → Int → Int → ByteArray → Bool → (List Int) → (List Int) → Option R), l_spec_MapPages_rw_2b1 N (r : Int) b8 b9 l6 l7 n8 n9 s4 b10 l8 l9 kRb kRb_1 kNb kR kN (f + 1) s (i : Int) = l_spec_MapPages_rw_2 N (r : Int) b8 b9 l6 l7 n8 n9 s4 b10 l8 l9 kR kN f s1 1 p p1 ((i + 1 : Nat) : Int) := fun kRb kRb_1 kNb kR kN => by
          rw [l_spec_MapPages_rw_2b1, s_spec_MapPages_rw_2b1, dec_lt hlt, cond_true, dec_nn, Bool.and_self, cond_true, Int.toNat_natCast, elemK_some hx, h1, hc, cond_false, wrap_next hlt (by omega)]
        refine ⟨s', by omega, ?_⟩
        rcases g3 with ⟨c', q, hc', g3⟩ | g3
        · exact .inr (.inr (.inr (.inl ⟨m', m1', m2', c', q, hc', fun kRb kRb_1 kNb kR kN => by rw [hst]; exact g3 _ _⟩)))
        · exact .inr (.inr (.inr (.inr ⟨m', m1', m2', g2, fun kRb kRb_1 kNb kR kN => by rw [hst]; exact g3 _ _⟩)))


theorem l03In_yes {s : ByteArray} {y : Nat} (hs : s.size ≤ 65536) (hy : y < s.size / 256) (k : Bool → Option R) : g_spec_l03In N s (y : Int) k = k true := by
  have e : IntKind.wrap .i64 (Int.tdiv (s.size : Int) 256) = ((s.size / 256 : Nat) : Int) := by rw [tdiv_nn (by omega), w64 (by omega) (by omega)]; omega
  unfold g_spec_l03In
  rw [decide_eq_true (show (y : Int) ≥ 0 by omega), cond_true, e, decide_eq_true (show (y : Int) < ((s.size / 256 : Nat) : Int) by omega), oK_some_eq]

theorem mapsI_ww {s1 : ByteArray} {n2 n4 n5 : Int} {b3 b4 b5 : Bool} {l2 : List PageMap} {l3 l4 : List Int} {s2 : ByteArray} (hs : s1.size ≤ 65536) (h3 : l3.length ≤ 1000) (hl : ∀ x ∈ l3, ∃ y : Nat, x = (y : Int) ∧ y < s1.size / 256) (kR kN : Option R) :
    ∀ (d f i : Nat), i + d = l3.length → d < f → l_spec_MapPages_ww_0 N s1 n2 b3 b4 l2 l3 n4 n5 s2 b5 l4 kR kN f (i : Int) = kN := by
  intro d
  induction d with
  | zero =>
    intro f i hi hf
    obtain ⟨f, rfl⟩ : ∃ j, f = j + 1 := ⟨f - 1, by omega⟩
    rw [l_spec_MapPages_ww_0, s_spec_MapPages_ww_0, decide_eq_false (show ¬ (i : Int) < (l3.length : Int) by omega), cond_false]
  | succ d ih =>
    intro f i hi hf
    obtain ⟨f, rfl⟩ : ∃ j, f = j + 1 := ⟨f - 1, by omega⟩
    have hlt : i < l3.length := by omega
    obtain ⟨x, hx⟩ := nth_some hlt
    obtain ⟨y, rfl, hy⟩ := hl x (nth_mem hx)
    rw [l_spec_MapPages_ww_0, s_spec_MapPages_ww_0, dec_lt hlt, cond_true, dec_nn, Bool.and_self, cond_true, Int.toNat_natCast, elemK_some hx, l03In_yes N hs hy, Bool.not_true, cond_false, wrap_next hlt (by omega)]
    exact ih f (i + 1) (by omega) (by omega)

theorem MapPages_ww_ok {s : ByteArray} {r : Nat} {b b1 : Bool} {l : List PageMap} {l1 : List Int} (hs : s.size ≤ 65536) (h256 : s.size % 256 = 0) (hm : memOk s = true) (hr : r < s.size / 256) (hlen : l.length ≤ 1000) (h1 : l1.length ≤ 1000) (hl : ∀ x ∈ l1, ∃ y : Nat, x = (y : Int) ∧ y < s.size / 256) (hN : 2 ^ 40 < N) :
    (∃ c p : Int, c ≠ 0 ∧ ∀ (k : Int → Int → ByteArray → Bool → (List PageMap) → (List Int) → (List Int) → Option R) (k_1 : ByteArray → Nat → Nat → Nat → Bool → (List PageMap) → (List Int) → (List Int) → Option R), g_spec_MapPages_ww N s (r : Int) b b1 l l1 k k_1 = k c p ⟨[].toArray⟩ true l l1 []) ∨
    (∃ (s' : ByteArray) (b' : Bool), s'.size = s.size ∧ ∀ (k : Int → Int → ByteArray → Bool → (List PageMap) → (List Int) → (List Int) → Option R) (k_1 : ByteArray → Nat → Nat → Nat → Bool → (List PageMap) → (List Int) → (List Int) → Option R), g_spec_MapPages_ww N s (r : Int) b b1 l l1 k k_1 = k 0 0 s' b' l l1 l1) ∨
    (∃ (s' : ByteArray) (m m1 m2 : Nat) (b' : Bool), s'.size = s.size ∧ m + m1 ≤ l1.length ∧ ∀ (k : Int → Int → ByteArray → Bool → (List PageMap) → (List Int) → (List Int) → Option R) (k_1 : ByteArray → Nat → Nat → Nat → Bool → (List PageMap) → (List Int) → (List Int) → Option R), g_spec_MapPages_ww N s (r : Int) b b1 l l1 k k_1 = k_1 s' m m1 m2 b' l l1 l1) := by
  obtain ⟨s', g1, g⟩ := mapsw_ww_go (R := R) N (r := r) (b8 := b) (b9 := cond (Nat.beq l1.length 0) false false) (b10 := true) (l6 := l) (l7 := l1) (l8 := []) (l9 := l1) (n8 := 0) (n9 := 0) (s4 := ⟨[].toArray⟩) hlen l.length N 0 s (by omega) (by omega) hs h256 hr hl
  have hd : ∀ (k : Int → Int → ByteArray → Bool → (List PageMap) → (List Int) → (List Int) → Option R) (k_1 : ByteArray → Nat → Nat → Nat → Bool → (List PageMap) → (List Int) → (List Int) → Option R), g_spec_MapPages_ww N s (r : Int) b b1 l l1 k k_1 = _ := fun k k_1 => by
    unfold g_spec_MapPages_ww c_spec_MapPages_ww_0 g_spec_l01Ints_w c_spec_MapPages_ww_2b1
    rw [decide_eq_false (show ¬ (s.size : Int) > 65536 by omega), cond_false, decide_eq_false (show ¬ (l.length : Int) > 1000 by omega), cond_false, decide_eq_false (show ¬ (l1.length : Int) > 1000 by omega), oK_some_eq, cond_false, spec_MemFault_eq, hm, cond_true, bne_self_eq_false, cond_false, l03In_yes N hs hr, Bool.not_true, oK_some_eq, cond_false, room (by omega) (by omega), cond_true, List.nil_append]
  rcases g with ⟨c', q, hc', g⟩ | ⟨m, m1, c', q, hc', g⟩ | g | ⟨m, m1, m2, c', q, hc', g⟩ | ⟨m, m1, m2, hm, g⟩
  · exact .inl ⟨c', q, hc', fun k k_1 => by rw [hd]; exact (mapsI_ww N hs h1 hl _ _ l1.length N 0 (by omega) (by omega)).trans (g _ _ _ _ _)⟩
  · exact .inl ⟨c', q, hc', fun k k_1 => by rw [hd]; exact (mapsI_ww N hs h1 hl _ _ l1.length N 0 (by omega) (by omega)).trans (g _ _ _ _ _)⟩
  · exact .inr (.inl ⟨s', _, g1, fun k k_1 => by rw [hd]; exact (mapsI_ww N hs h1 hl _ _ l1.length N 0 (by omega) (by omega)).trans (g _ _ _ _ _)⟩)
  · exact .inl ⟨c', q, hc', fun k k_1 => by rw [hd]; exact (mapsI_ww N hs h1 hl _ _ l1.length N 0 (by omega) (by omega)).trans (g _ _ _ _ _)⟩
  · exact .inr (.inr ⟨s', m, m1, m2, _, g1, hm, fun k k_1 => by rw [hd]; exact (mapsI_ww N hs h1 hl _ _ l1.length N 0 (by omega) (by omega)).trans (g _ _ _ _ _)⟩)

theorem mapsI_rw {s1 : ByteArray} {n2 n4 n5 : Int} {b3 b4 b5 : Bool} {l2 : List PageMap} {l3 l4 : List Int} {s2 : ByteArray} (hs : s1.size ≤ 65536) (h3 : l3.length ≤ 1000) (hl : ∀ x ∈ l3, ∃ y : Nat, x = (y : Int) ∧ y < s1.size / 256) (kR kN : Option R) :
    ∀ (d f i : Nat), i + d = l3.length → d < f → l_spec_MapPages_rw_0 N s1 n2 b3 b4 l2 l3 n4 n5 s2 b5 l4 kR kN f (i : Int) = kN := by
  intro d
  induction d with
  | zero =>
    intro f i hi hf
    obtain ⟨f, rfl⟩ : ∃ j, f = j + 1 := ⟨f - 1, by omega⟩
    rw [l_spec_MapPages_rw_0, s_spec_MapPages_rw_0, decide_eq_false (show ¬ (i : Int) < (l3.length : Int) by omega), cond_false]
  | succ d ih =>
    intro f i hi hf
    obtain ⟨f, rfl⟩ : ∃ j, f = j + 1 := ⟨f - 1, by omega⟩
    have hlt : i < l3.length := by omega
    obtain ⟨x, hx⟩ := nth_some hlt
    obtain ⟨y, rfl, hy⟩ := hl x (nth_mem hx)
    rw [l_spec_MapPages_rw_0, s_spec_MapPages_rw_0, dec_lt hlt, cond_true, dec_nn, Bool.and_self, cond_true, Int.toNat_natCast, elemK_some hx, l03In_yes N hs hy, Bool.not_true, cond_false, wrap_next hlt (by omega)]
    exact ih f (i + 1) (by omega) (by omega)

theorem MapPages_rw_ok {s : ByteArray} {r : Nat} {b b1 : Bool} {l : List PageMap} {l1 : List Int} (hs : s.size ≤ 65536) (h256 : s.size % 256 = 0) (hm : memOk s = true) (hr : r < s.size / 256) (hlen : l.length ≤ 1000) (h1 : l1.length ≤ 1000) (hl : ∀ x ∈ l1, ∃ y : Nat, x = (y : Int) ∧ y < s.size / 256) (hN : 2 ^ 40 < N) :
    (∃ c p : Int, c ≠ 0 ∧ ∀ (k : Int → Int → ByteArray → Bool → (List PageMap) → (List Int) → (List Int) → Option R) (k_1 : ByteArray → Nat → Nat → Nat → Bool → (List PageMap) → (List Int) → (List Int) → Option R), g_spec_MapPages_rw N s (r : Int) b b1 l l1 k k_1 = k c p ⟨[].toArray⟩ true l l1 []) ∨
    (∃ (s' : ByteArray) (b' : Bool), s'.size = s.size ∧ ∀ (k : Int → Int → ByteArray → Bool → (List PageMap) → (List Int) → (List Int) → Option R) (k_1 : ByteArray → Nat → Nat → Nat → Bool → (List PageMap) → (List Int) → (List Int) → Option R), g_spec_MapPages_rw N s (r : Int) b b1 l l1 k k_1 = k 0 0 s' b' l l1 l1) ∨
    (∃ (s' : ByteArray) (m m1 m2 : Nat) (b' : Bool), s'.size = s.size ∧ m + m1 ≤ l1.length ∧ ∀ (k : Int → Int → ByteArray → Bool → (List PageMap) → (List Int) → (List Int) → Option R) (k_1 : ByteArray → Nat → Nat → Nat → Bool → (List PageMap) → (List Int) → (List Int) → Option R), g_spec_MapPages_rw N s (r : Int) b b1 l l1 k k_1 = k_1 s' m m1 m2 b' l l1 l1) := by
  obtain ⟨s', g1, g⟩ := mapsw_rw_go (R := R) N (r := r) (b8 := b) (b9 := cond (Nat.beq l1.length 0) false false) (b10 := true) (l6 := l) (l7 := l1) (l8 := []) (l9 := l1) (n8 := 0) (n9 := 0) (s4 := ⟨[].toArray⟩) hlen l.length N 0 s (by omega) (by omega) hs h256 hr hl
  have hd : ∀ (k : Int → Int → ByteArray → Bool → (List PageMap) → (List Int) → (List Int) → Option R) (k_1 : ByteArray → Nat → Nat → Nat → Bool → (List PageMap) → (List Int) → (List Int) → Option R), g_spec_MapPages_rw N s (r : Int) b b1 l l1 k k_1 = _ := fun k k_1 => by
    unfold g_spec_MapPages_rw c_spec_MapPages_rw_0 g_spec_l01Ints_w c_spec_MapPages_rw_2b1
    rw [decide_eq_false (show ¬ (s.size : Int) > 65536 by omega), cond_false, decide_eq_false (show ¬ (l.length : Int) > 1000 by omega), cond_false, decide_eq_false (show ¬ (l1.length : Int) > 1000 by omega), oK_some_eq, cond_false, spec_MemFault_eq, hm, cond_true, bne_self_eq_false, cond_false, l03In_yes N hs hr, Bool.not_true, oK_some_eq, cond_false, room (by omega) (by omega), cond_true, List.nil_append]
  rcases g with ⟨c', q, hc', g⟩ | ⟨m, m1, c', q, hc', g⟩ | g | ⟨m, m1, m2, c', q, hc', g⟩ | ⟨m, m1, m2, hm, g⟩
  · exact .inl ⟨c', q, hc', fun k k_1 => by rw [hd]; exact (mapsI_rw N hs h1 hl _ _ l1.length N 0 (by omega) (by omega)).trans (g _ _ _ _ _)⟩
  · exact .inl ⟨c', q, hc', fun k k_1 => by rw [hd]; exact (mapsI_rw N hs h1 hl _ _ l1.length N 0 (by omega) (by omega)).trans (g _ _ _ _ _)⟩
  · exact .inr (.inl ⟨s', _, g1, fun k k_1 => by rw [hd]; exact (mapsI_rw N hs h1 hl _ _ l1.length N 0 (by omega) (by omega)).trans (g _ _ _ _ _)⟩)
  · exact .inl ⟨c', q, hc', fun k k_1 => by rw [hd]; exact (mapsI_rw N hs h1 hl _ _ l1.length N 0 (by omega) (by omega)).trans (g _ _ _ _ _)⟩
  · exact .inr (.inr ⟨s', m, m1, m2, _, g1, hm, fun k k_1 => by rw [hd]; exact (mapsI_rw N hs h1 hl _ _ l1.length N 0 (by omega) (by omega)).trans (g _ _ _ _ _)⟩)


theorem frees_in {z : Nat} (hz : 6 ≤ z / 256) : ∀ x ∈ [(2 : Int), (3 : Int), (4 : Int), (5 : Int)], ∃ y : Nat, x = (y : Int) ∧ y < z / 256 := by
  intro x hx
  simp only [List.mem_cons, List.not_mem_nil, or_false] at hx
  exact ⟨x.toNat, by omega, by omega⟩

theorem tbl_go {s4 : ByteArray} {b6 b7 : Bool} {n15 n16 n17 : Int} {l10 : List Int} {l11 : List PageMap} (hs : s4.size ≤ 65536) (h256 : s4.size % 256 = 0) (hm : memOk s4 = true) (h6 : 6 ≤ s4.size / 256) (hl : l11.length ≤ 1000) (hN : 2 ^ 40 < N) :
    ∀ (d f m3 m4 m5 : Nat), m4 = d → d < f → m3 + m4 ≤ l11.length → ∃ s' : ByteArray, s'.size = s4.size ∧ ∀ kN : ByteArray → Bool → Int → Int → Int → List Int → Option R, l_spec_l01Src_tables_Wr_0 N s4 b6 b7 n15 n16 n17 l10 l11 kN f m3 m4 m5 = kN s' b7 n15 n16 n17 l10 := by
  intro d
  induction d with
  | zero =>
    intro f m3 m4 m5 hd hf hw
    obtain ⟨f, rfl⟩ : ∃ j, f = j + 1 := ⟨f - 1, by omega⟩
    refine ⟨s4, rfl, fun kN => ?_⟩
    rw [l_spec_l01Src_tables_Wr_0, s_spec_l01Src_tables_Wr_0, decide_eq_false (show ¬ (m4 : Int) > 0 by omega), cond_false]
  | succ d ih =>
    intro f m3 m4 m5 hd hf hw
    obtain ⟨f, rfl⟩ : ∃ j, f = j + 1 := ⟨f - 1, by omega⟩
    have e : IntKind.wrap .i64 ((m4 : Int) - 1) = ((m4 - 1 : Nat) : Int) := by rw [w64 (by omega) (by omega)]; omega
    have hsl : (seg l11 m3 m4).length ≤ 1000 := by simp [seg]; omega
    have hfr := frees_in h6
    rcases MapPages_rw_ok (R := R) N (s := s4) (r := 1) (b := b6) (b1 := false) (l := seg l11 m3 m4) (l1 := [(2 : Int), (3 : Int), (4 : Int), (5 : Int)]) hs h256 hm (by omega) hsl (by simp) hfr hN with ⟨c, p, hc, g⟩ | ⟨s', b', g1, g⟩ | ⟨s', m, m1, m2, b', g1, _, g⟩
    · have hc' : (c == 0) = false := by rw [beq_dec]; exact decide_eq_false hc
      obtain ⟨s', g1, g2⟩ := ih f (0 + m3) (m4 - 1) ((m4 + m5) - (m4 - 1)) (by omega) (by omega) (by omega)
      refine ⟨s', g1, fun kN => ?_⟩
      rw [l_spec_l01Src_tables_Wr_0, s_spec_l01Src_tables_Wr_0, decide_eq_true (show (m4 : Int) > 0 by omega), cond_true, ble_t hw, cond_true]
      refine (g _ _).trans ?_
      rw [hc', cond_false, e, dec_nn, decide_eq_true (show ((m4 - 1 : Nat) : Int) ≤ ((m4 + m5 : Nat) : Int) by omega), Bool.and_self, cond_true, Int.toNat_natCast, Nat.sub_zero]
      exact g2 kN
    · refine ⟨s', g1, fun kN => ?_⟩
      rw [l_spec_l01Src_tables_Wr_0, s_spec_l01Src_tables_Wr_0, decide_eq_true (show (m4 : Int) > 0 by omega), cond_true, ble_t hw, cond_true]
      refine (g _ _).trans ?_
      rw [beq_self_eq_true, cond_true]
    · refine ⟨s', g1, fun kN => ?_⟩
      rw [l_spec_l01Src_tables_Wr_0, s_spec_l01Src_tables_Wr_0, decide_eq_true (show (m4 : Int) > 0 by omega), cond_true, ble_t hw, cond_true]
      exact g _ _


theorem spec_Walk_eq {s : ByteArray} {root va : Nat} {acc : Int} {user : Bool} (hm : memOk s = true) (hs : s.size ≤ 65536) (h256 : s.size % 256 = 0) (hr : root ≤ 255) (hv : va < 262144) (ha : acc = 1 ∨ acc = 2 ∨ acc = 3) (k : Int → Int → Int → Bool → Bool → ByteArray → List Int → Option R) :
    g_spec_Walk N s root va acc user k = k (look s root va acc user).fault (look s root va acc user).pa (look s root va acc user).entry (look s root va acc user).large false (cond ((look s root va acc user).fault == 0) (setWord s (look s root va acc user).entryAt.toNat (look s root va acc user).entry) s) (framesOf (look s root va acc user)) := by
  unfold g_spec_Walk
  rw [spec_MemFault_eq, hm, cond_true, show ((0 : Int) != 0) = false from rfl, cond_false, decide_eq_false (show ¬ (root : Int) < 0 by omega), cond_false, decide_eq_false (show ¬ (root : Int) > 255 by omega), cond_false, decide_eq_false (show ¬ (va : Int) < 0 by omega), cond_false, decide_eq_false (show ¬ (va : Int) ≥ 262144 by omega), cond_false, spec_l03Acc_eq N ha, oK_some_eq, Bool.not_true, cond_false]
  have f256 : ∀ n : Int, Int.fdiv n 256 = n / 256 := fun n => fdiv_lit n (by omega)
  have t32 : ∀ n : Nat, Int.tmod ((n : Nat) : Int) 32 = ((n % 32 : Nat) : Int) := fun n => by rw [Int.tmod_eq_emod_of_nonneg (by omega)]; omega
  have t256 : ∀ n : Nat, Int.tmod ((n : Nat) : Int) 256 = ((n % 256 : Nat) : Int) := fun n => by rw [Int.tmod_eq_emod_of_nonneg (by omega)]; omega
  have d256 : ∀ n : Nat, ((n : Nat) : Int) / 256 = ((n / 256 : Nat) : Int) := fun n => by omega
  rw [fdiv_lit _ (show (0 : Int) ≤ 8192 by omega), show (va : Int) / 8192 = ((va / 8192 : Nat) : Int) by omega]
  unfold look
  dsimp only
  by_cases h0 : s.size / 256 ≤ root
  · rw [spec_l03Entry_no N (by omega) h0, decide_eq_true h0]; rfl
  rw [spec_l03Entry_yes N hs (by omega) h0, decide_eq_false h0]
  have hlt := wordN_lt s (ent root (va / 8192))
  obtain ⟨e, hE⟩ : ∃ e, wordN s (ent root (va / 8192)) = e := ⟨_, rfl⟩
  rw [hE] at hlt
  rw [hE]
  rw [Bool.not_true, cond_false, leads_eq, oK_some_eq]
  cases hle : leadsOn e with
  | true =>
    rw [cond_true, cond_true, f256, d256, f256, d256, t32]
    by_cases h1 : s.size / 256 ≤ e / 256
    · rw [spec_l03Entry_no N (by omega) h1, decide_eq_true h1]; rfl
    rw [spec_l03Entry_yes N hs (by omega) h1, decide_eq_false h1]
    have hlt2 := wordN_lt s (ent (e / 256) (va / 256 % 32))
    obtain ⟨e2, hE2⟩ : ∃ e2, wordN s (ent (e / 256) (va / 256 % 32)) = e2 := ⟨_, rfl⟩
    rw [hE2] at hlt2
    rw [hE2, Bool.not_true, cond_false, cond_false, may_eq, oK_some_eq]
    cases hl2 : letsB (low8 e2) acc user with
    | false => rfl
    | true =>
      rw [Bool.not_true, cond_false, cond_false, oK_some_eq, f256, d256]
      by_cases h2 : s.size / 256 ≤ e2 / 256
      · rw [w64 (n := ((e2 / 256 : Nat) : Int) + 1) (by omega) (by omega), w64 (n := (((e2 / 256 : Nat) : Int) + 1) * 256) (by omega) (by omega), decide_eq_true (show (((e2 / 256 : Nat) : Int) + 1) * 256 > (s.size : Int) by omega), decide_eq_true h2]; rfl
      rw [w64 (n := ((e2 / 256 : Nat) : Int) + 1) (by omega) (by omega), w64 (n := (((e2 / 256 : Nat) : Int) + 1) * 256) (by omega) (by omega), decide_eq_false (show ¬ (((e2 / 256 : Nat) : Int) + 1) * 256 > (s.size : Int) by omega), decide_eq_false h2, cond_false, cond_false, putE_spec hlt2, oK_some_eq, t256,
        w64 (n := ((e / 256 : Nat) : Int) * 256) (by omega) (by omega), w64 (n := 4 * ((va / 256 % 32 : Nat) : Int)) (by omega) (by omega), w64 (n := ((e / 256 : Nat) : Int) * 256 + 4 * ((va / 256 % 32 : Nat) : Int)) (by omega) (by omega), show ((e / 256 : Nat) : Int) * 256 + 4 * ((va / 256 % 32 : Nat) : Int) = ((ent (e / 256) (va / 256 % 32) : Nat) : Int) by rw [ent_eq]; omega,
        spec_SetWord_eq N (show ent (e / 256) (va / 256 % 32) + 4 ≤ s.size by rw [ent_eq]; omega) hs,
        w64 (n := ((e2 / 256 : Nat) : Int) * 256) (by omega) (by omega), w64 (n := ((e2 / 256 : Nat) : Int) * 256 + ((va % 256 : Nat) : Int)) (by omega) (by omega), show ((e2 / 256 : Nat) : Int) * 256 + ((va % 256 : Nat) : Int) = ((e2 / 256 * 256 + va % 256 : Nat) : Int) by omega]
      rfl
  | false =>
    have hm32 : (Int.tmod ((e / 256 : Nat) : Int) 32 != 0) = !(e / 256 % 32 == 0) := by
      rw [t32, Bool.eq_iff_iff]; simp; omega
    rw [cond_false, cond_false, f256, d256, hm32, may_eq32, oK_some_eq]
    cases hl3 : e / 256 % 32 == 0 with
    | false => rfl
    | true =>
      rw [Bool.not_true, Bool.false_or, cond_false]
      cases hl2 : letsB (low8 e) acc user with
      | false => rfl
      | true =>
        rw [Bool.not_true, cond_false, cond_false, f256, d256, t32, w64 (n := ((e / 256 : Nat) : Int) + ((va / 256 % 32 : Nat) : Int)) (by omega) (by omega), oK_some_eq, show ((e / 256 : Nat) : Int) + ((va / 256 % 32 : Nat) : Int) = ((e / 256 + va / 256 % 32 : Nat) : Int) by omega]
        by_cases h2 : s.size / 256 ≤ e / 256 + va / 256 % 32
        · rw [w64 (n := ((e / 256 + va / 256 % 32 : Nat) : Int) + 1) (by omega) (by omega), w64 (n := (((e / 256 + va / 256 % 32 : Nat) : Int) + 1) * 256) (by omega) (by omega), decide_eq_true (show (((e / 256 + va / 256 % 32 : Nat) : Int) + 1) * 256 > (s.size : Int) by omega), decide_eq_true h2]; rfl
        rw [w64 (n := ((e / 256 + va / 256 % 32 : Nat) : Int) + 1) (by omega) (by omega), w64 (n := (((e / 256 + va / 256 % 32 : Nat) : Int) + 1) * 256) (by omega) (by omega), decide_eq_false (show ¬ (((e / 256 + va / 256 % 32 : Nat) : Int) + 1) * 256 > (s.size : Int) by omega), decide_eq_false h2, cond_false, cond_false, putE_spec hlt, oK_some_eq, t256,
          w64 (n := (root : Int) * 256) (by omega) (by omega), w64 (n := 4 * ((va / 8192 : Nat) : Int)) (by omega) (by omega), w64 (n := (root : Int) * 256 + 4 * ((va / 8192 : Nat) : Int)) (by omega) (by omega), show (root : Int) * 256 + 4 * ((va / 8192 : Nat) : Int) = ((ent root (va / 8192) : Nat) : Int) by rw [ent_eq]; omega,
          spec_SetWord_eq N (show ent root (va / 8192) + 4 ≤ s.size by rw [ent_eq]; omega) hs,
          w64 (n := ((e / 256 + va / 256 % 32 : Nat) : Int) * 256) (by omega) (by omega), w64 (n := ((e / 256 + va / 256 % 32 : Nat) : Int) * 256 + ((va % 256 : Nat) : Int)) (by omega) (by omega), show ((e / 256 + va / 256 % 32 : Nat) : Int) * 256 + ((va % 256 : Nat) : Int) = (((e / 256 + va / 256 % 32) * 256 + va % 256 : Nat) : Int) by omega]
        rfl


theorem look_facts (s : ByteArray) {root va : Nat} (acc : Int) (user : Bool) (hv : va < 262144) :
    ((look s root va acc user).many = 0 ∨ (look s root va acc user).many = 1 ∨ (look s root va acc user).many = 2) ∧
    ((look s root va acc user).fault = 0 → ∃ f t i : Nat, f < s.size / 256 ∧ t < s.size / 256 ∧ i < 32 ∧ (look s root va acc user).pa = ((f * 256 + va % 256 : Nat) : Int) ∧ (look s root va acc user).entryAt = ((ent t i : Nat) : Int)) := by
  unfold look
  dsimp only
  by_cases h0 : s.size / 256 ≤ root
  · rw [decide_eq_true h0]
    exact ⟨.inl rfl, fun h => absurd (show (2 : Int) = 0 from h) (by decide)⟩
  rw [decide_eq_false h0, cond_false]
  obtain ⟨e, hE⟩ : ∃ e, wordN s (ent root (va / 8192)) = e := ⟨_, rfl⟩
  rw [hE]
  cases leadsOn e with
  | true =>
    rw [cond_true]
    by_cases h1 : s.size / 256 ≤ e / 256
    · rw [decide_eq_true h1]
      exact ⟨.inr (.inl rfl), fun h => absurd (show (2 : Int) = 0 from h) (by decide)⟩
    rw [decide_eq_false h1, cond_false]
    obtain ⟨e2, hE2⟩ : ∃ e2, wordN s (ent (e / 256) (va / 256 % 32)) = e2 := ⟨_, rfl⟩
    rw [hE2]
    cases letsB (low8 e2) acc user with
    | false => exact ⟨.inr (.inr rfl), fun h => absurd (show (1 : Int) = 0 from h) (by decide)⟩
    | true =>
      rw [Bool.not_true, cond_false]
      by_cases h2 : s.size / 256 ≤ e2 / 256
      · rw [decide_eq_true h2]
        exact ⟨.inr (.inr rfl), fun h => absurd (show (2 : Int) = 0 from h) (by decide)⟩
      rw [decide_eq_false h2, cond_false]
      exact ⟨.inr (.inr rfl), fun _ => ⟨e2 / 256, e / 256, va / 256 % 32, by omega, by omega, by omega, rfl, rfl⟩⟩
  | false =>
    rw [cond_false]
    cases e / 256 % 32 == 0 with
    | false => exact ⟨.inr (.inl rfl), fun h => absurd (show (1 : Int) = 0 from h) (by decide)⟩
    | true =>
      rw [Bool.not_true, cond_false]
      cases letsB (low8 e) acc user with
      | false => exact ⟨.inr (.inl rfl), fun h => absurd (show (1 : Int) = 0 from h) (by decide)⟩
      | true =>
        rw [Bool.not_true, cond_false]
        by_cases h2 : s.size / 256 ≤ e / 256 + va / 256 % 32
        · rw [decide_eq_true h2]
          exact ⟨.inr (.inl rfl), fun h => absurd (show (2 : Int) = 0 from h) (by decide)⟩
        rw [decide_eq_false h2, cond_false]
        exact ⟨.inr (.inl rfl), fun _ => ⟨e / 256 + va / 256 % 32, root, va / 8192, by omega, by omega, by omega, rfl, rfl⟩⟩

theorem frames_len (w : Look) (h : w.many = 0 ∨ w.many = 1 ∨ w.many = 2) : (((framesOf w).length : Nat) : Int) = w.many := by
  unfold framesOf
  rcases h with h | h | h <;> rw [h] <;> rfl

/-- One step of a walk in two. -/
theorem place_both {s : ByteArray} {host gpa : Nat} {acc : Int} (hm : memOk s = true) (hs : s.size ≤ 65536) (h256 : s.size % 256 = 0) (hr : host ≤ 255) (hv : gpa < 262144) (ha : acc = 1 ∨ acc = 2 ∨ acc = 3) :
    ∃ m : Int, 0 ≤ m ∧ m ≤ 2 ∧
      (((∀ (st n4 : Int) (k : Int → ByteArray → Int → Int → Option R), 0 ≤ st → st ≤ 1000 → g_spec_l03Two_place_W N gpa acc s host st n4 k = k (-1) s (st + m) gpa) ∧
        (∀ (st n3 n4 n5 : Int) (b : Bool) (z : ByteArray) (k : Int → Bool → Int → Int → Int → List Int → Option R), 0 ≤ st → st ≤ 1000 → g_impl_WalkTwo_1_WWWw N gpa acc b host n3 n4 n5 st z (ofBytes s) k = k 0 false 3 gpa (st + m) (ofBytes s))) ∨
      ∃ (f : Nat) (s1 : ByteArray), f < s.size / 256 ∧ s1.size = s.size ∧
        (∀ (st n4 : Int) (k : Int → ByteArray → Int → Int → Option R), 0 ≤ st → st ≤ 1000 → g_spec_l03Two_place_W N gpa acc s host st n4 k = k ((f * 256 + gpa % 256 : Nat) : Int) s1 (st + m) n4) ∧
        (∀ (st n3 n4 n5 : Int) (b : Bool) (z : ByteArray) (k : Int → Bool → Int → Int → Int → List Int → Option R), 0 ≤ st → st ≤ 1000 → g_impl_WalkTwo_1_WWWw N gpa acc b host n3 n4 n5 st z (ofBytes s) k = k ((f * 256 + gpa % 256 : Nat) : Int) true n3 n4 (st + m) (ofBytes s1))) := by
  obtain ⟨h1, h2⟩ := look_facts s (root := host) acc false hv
  have hfl := frames_len _ h1
  have hsp := fun k => spec_Walk_eq N (R := R) (user := false) hm hs h256 hr hv ha k
  have him := fun (b : Bool) k => impl_ylookup_eq N (R := R) (user := false) (b := b) hs h256 hr hv ha k
  obtain ⟨w, hw⟩ : ∃ w, look s host gpa acc false = w := ⟨_, rfl⟩
  rw [hw] at h1 h2 hfl
  rw [hw] at hsp
  have hmb : 0 ≤ w.many ∧ w.many ≤ 2 := by rcases h1 with h | h | h <;> omega
  refine ⟨w.many, hmb.1, hmb.2, ?_⟩
  by_cases hf : w.fault = 0
  · obtain ⟨f, t, i, hf1, ht, hi, hpa, hea⟩ := h2 hf
    have hen : ent t i + 4 ≤ s.size := by rw [ent_eq]; omega
    refine .inr ⟨f, setWord s (ent t i) w.entry, hf1, setWord_size hen _, fun st n4 k h3 h4 => ?_, fun st n3 n4 n5 b z k h3 h4 => ?_⟩
    · unfold g_spec_l03Two_place_W
      rw [hsp, hf, show ((0 : Int) != 0) = false from rfl, cond_false, hfl, w64 (by omega) (by omega), hpa, hea]
      rfl
    · unfold g_impl_WalkTwo_1_WWWw
      rw [him, hw]
      unfold Look.out
      dsimp only
      rw [hf, show ((0 : Int) != 0) = false from rfl, cond_false, hea, impl_yputWord_eq N hen (by omega), w64 (by omega) (by omega), hpa]
  · have hf2 : (w.fault != 0) = true := by simpa using hf
    refine .inl ⟨fun st n4 k h3 h4 => ?_, fun st n3 n4 n5 b z k h3 h4 => ?_⟩
    · unfold g_spec_l03Two_place_W
      have hf3 : (w.fault == 0) = false := by simpa using hf
      rw [hsp, hf2, cond_true, hfl, w64 (by omega) (by omega)]
    · unfold g_impl_WalkTwo_1_WWWw
      rw [him, hw]
      unfold Look.out
      dsimp only
      rw [hf2, cond_true, w64 (by omega) (by omega)]


theorem bt_ge {s : ByteArray} {i : Nat} (h : s.size ≤ i) : bt s i = 0 := by
  unfold bt
  have h : s.data.toList.length ≤ i := by simpa using h
  rw [List.getD_eq_getElem?_getD, List.getElem?_eq_none h]; rfl

theorem bt_putWord (v : Int) : bt (putWord v) 0 = v % 256 ∧ bt (putWord v) 1 = v / 256 % 256 ∧ bt (putWord v) 2 = v / 65536 % 256 ∧ bt (putWord v) 3 = v / 16777216 % 256 := by
  have h := ofBytes_putWord v
  have n0 := nth_ofBytes (s := putWord v) (i := 0) (by rw [putWord_size]; omega)
  have n1 := nth_ofBytes (s := putWord v) (i := 1) (by rw [putWord_size]; omega)
  have n2 := nth_ofBytes (s := putWord v) (i := 2) (by rw [putWord_size]; omega)
  have n3 := nth_ofBytes (s := putWord v) (i := 3) (by rw [putWord_size]; omega)
  rw [h] at n0 n1 n2 n3
  exact ⟨(Option.some.inj n0).symm, (Option.some.inj n1).symm, (Option.some.inj n2).symm, (Option.some.inj n3).symm⟩

theorem bt_set_in {s : ByteArray} {i k : Nat} (h : i + 4 ≤ s.size) (hk : k < 4) (v : Int) : bt (setWord s i v) (i + k) = bt (putWord v) k := by
  unfold setWord
  have hz : (s.extract 0 i).size = i := by rw [ByteArray.size_extract]; omega
  rw [bt_append_left (by rw [ByteArray.size_append, hz, putWord_size]; omega)]
  have := bt_append_right (s := s.extract 0 i) (t := putWord v) k
  rw [hz] at this
  exact this

theorem bt_set_out {s : ByteArray} {i j : Nat} (h : i + 4 ≤ s.size) (hj : j < i ∨ i + 4 ≤ j) (v : Int) : bt (setWord s i v) j = bt s j := by
  have hz : (s.extract 0 i).size = i := by rw [ByteArray.size_extract]; omega
  have hz2 : (s.extract 0 i ++ putWord v).size = i + 4 := by rw [ByteArray.size_append, hz, putWord_size]
  rcases hj with hj | hj
  · unfold setWord
    rw [bt_append_left (by omega), bt_append_left (by omega)]
    have := bt_extract (s := s) (a := 0) (b := i) (i := j) (by omega)
    rw [this, Nat.zero_add]
  · by_cases hs : j < s.size
    · obtain ⟨d, rfl⟩ : ∃ d, j = (i + 4) + d := ⟨j - (i + 4), by omega⟩
      unfold setWord
      have := bt_append_right (s := s.extract 0 i ++ putWord v) (t := s.extract (i + 4) s.size) d
      rw [hz2] at this
      rw [this, bt_extract (by omega)]
    · rw [bt_ge (by rw [setWord_size h]; omega), bt_ge (by omega)]

theorem wordAt_set_eq {s : ByteArray} {i : Nat} (h : i + 4 ≤ s.size) (v : Int) : wordAt (setWord s i v) i = v % 4294967296 := by
  obtain ⟨h0, h1, h2, h3⟩ := bt_putWord v
  have e0 := bt_set_in (k := 0) h (by omega) v
  rw [Nat.add_zero] at e0
  unfold wordAt
  rw [e0, bt_set_in h (by omega), bt_set_in h (by omega), bt_set_in h (by omega), h0, h1, h2, h3]
  omega

theorem wordAt_set_ne {s : ByteArray} {i j : Nat} (h : i + 4 ≤ s.size) (hj : j + 4 ≤ i ∨ i + 4 ≤ j) (v : Int) : wordAt (setWord s i v) j = wordAt s j := by
  unfold wordAt
  rw [bt_set_out h (by omega), bt_set_out h (by omega), bt_set_out h (by omega), bt_set_out h (by omega)]

theorem wordN_set_eq {s : ByteArray} {i v : Nat} (h : i + 4 ≤ s.size) (hv : v < 4294967296) : wordN (setWord s i (v : Int)) i = v := by
  unfold wordN
  rw [wordAt_set_eq h]; omega

theorem wordN_set_ne {s : ByteArray} {i j : Nat} (h : i + 4 ≤ s.size) (hj : j + 4 ≤ i ∨ i + 4 ≤ j) (v : Int) : wordN (setWord s i v) j = wordN s j := by
  unfold wordN
  rw [wordAt_set_ne h hj]

theorem putE_form {e : Nat} (acc : Int) : putE e acc = 256 * (e / 256) + (e % 256 ||| (if acc == 2 then 96 else 32)) := by
  unfold putE
  have hc : (if acc == 2 then 96 else 32 : Nat) < 256 := by split <;> omega
  generalize (if acc == 2 then 96 else 32 : Nat) = c at hc
  have h1 : (e ||| c) / 256 = e / 256 := by
    have := Nat.shiftRight_or_distrib (i := 8) (a := e) (b := c)
    rw [Nat.shiftRight_eq_div_pow, Nat.shiftRight_eq_div_pow, Nat.shiftRight_eq_div_pow] at this
    rw [show (256 : Nat) = 2 ^ 8 from rfl, this, Nat.div_eq_of_lt (a := c) (by omega), Nat.or_zero]
  have h2 : (e ||| c) % 256 = (e % 256 ||| c) := by
    have := Nat.or_mod_two_pow (a := e) (b := c) (n := 8)
    rw [show (256 : Nat) = 2 ^ 8 from rfl, this, Nat.mod_eq_of_lt (a := c) (by omega)]
  omega

theorem or_byte : ∀ m : Nat, m < 256 → (m ||| 96) < 256 ∧ (m ||| 32) < 256 ∧ ((m ||| 96) &&& 31 = m &&& 31) ∧ ((m ||| 32) &&& 31 = m &&& 31) ∧ ((m ||| 96) ||| 96 = m ||| 96) ∧ ((m ||| 32) ||| 32 = m ||| 32) := by decide +kernel

theorem putE_facts (e : Nat) (acc : Int) : putE e acc / 256 = e / 256 ∧ low8 (putE e acc : Nat) &&& 31 = low8 (e : Nat) &&& 31 ∧ putE (putE e acc) acc = putE e acc ∧ (e < 4294967296 → putE e acc < 4294967296) ∧ putE e acc % 256 = (e % 256 ||| (if acc == 2 then 96 else 32)) := by
  have hf := putE_form (e := e) acc
  have hf2 := putE_form (e := putE e acc) acc
  obtain ⟨b1, b2, b3, b4, b5, b6⟩ := or_byte (e % 256) (by omega)
  have hc : (e % 256 ||| (if acc == 2 then 96 else 32)) < 256 := by split <;> assumption
  have hm : putE e acc % 256 = (e % 256 ||| (if acc == 2 then 96 else 32)) := by omega
  have hd : putE e acc / 256 = e / 256 := by omega
  refine ⟨hd, ?_, ?_, by omega, hm⟩
  · have l1 : low8 ((putE e acc : Nat) : Int) = putE e acc % 256 := by unfold low8; omega
    have l2 : low8 ((e : Nat) : Int) = e % 256 := by unfold low8; omega
    rw [l1, l2, hm]
    split <;> assumption
  · rw [hm, hd] at hf2
    rw [hf2, hf]
    congr 1
    split <;> assumption

theorem and_sub (a b c : Nat) (hc : 31 &&& c = c) (h : a &&& 31 = b &&& 31) : a &&& c = b &&& c := by
  rw [← hc, ← Nat.and_assoc, ← Nat.and_assoc, h]

theorem leadsOn_put (e : Nat) (acc : Int) : leadsOn (putE e acc) = leadsOn e := by
  obtain ⟨_, h, _⟩ := putE_facts e acc
  unfold leadsOn
  rw [and_sub _ _ 1 rfl h, and_sub _ _ 14 rfl h]

theorem pick3 (a : Int) : (if a == 2 then 4 else if a == 3 then 8 else 2 : Nat) = 4 ∨ (if a == 2 then 4 else if a == 3 then 8 else 2 : Nat) = 8 ∨ (if a == 2 then 4 else if a == 3 then 8 else 2 : Nat) = 2 := by
  split
  · exact .inl rfl
  · split
    · exact .inr (.inl rfl)
    · exact .inr (.inr rfl)

theorem letsB_put (e : Nat) (acc a : Int) (u : Bool) : letsB (low8 (putE e acc : Nat)) a u = letsB (low8 (e : Nat)) a u := by
  obtain ⟨_, h, _⟩ := putE_facts e acc
  unfold letsB
  rw [and_sub _ _ 1 rfl h, and_sub _ _ 16 rfl h]
  have h2 : ∀ c : Nat, (c = 4 ∨ c = 8 ∨ c = 2) → low8 (putE e acc : Nat) &&& c = low8 (e : Nat) &&& c := fun c hc => by
    rcases hc with rfl | rfl | rfl
    · exact and_sub _ _ 4 rfl h
    · exact and_sub _ _ 8 rfl h
    · exact and_sub _ _ 2 rfl h
  rw [h2 _ (pick3 _)]

/-- An entry that lets an access leads on to no table. -/
theorem lets_not_leads : ∀ m : Nat, m < 256 → ∀ c, (c = 4 ∨ c = 8 ∨ c = 2) → (m &&& c == 0) = false → (m &&& 14 == 0) = false := by
  intro m hm c hc h
  have : ∀ m : Nat, m < 256 → ((m &&& 4 == 0) = false → (m &&& 14 == 0) = false) ∧ ((m &&& 8 == 0) = false → (m &&& 14 == 0) = false) ∧ ((m &&& 2 == 0) = false → (m &&& 14 == 0) = false) := by decide +kernel
  obtain ⟨h1, h2, h3⟩ := this m hm
  rcases hc with rfl | rfl | rfl
  · exact h1 h
  · exact h2 h
  · exact h3 h

theorem letsB_leads {e : Nat} {acc : Int} {u : Bool} (h : letsB (low8 (e : Nat)) acc u = true) : leadsOn e = false := by
  unfold letsB at h
  simp only [Bool.and_eq_true, Bool.not_eq_true'] at h
  obtain ⟨_, h2, _⟩ := h
  have := lets_not_leads (low8 (e : Nat)) (low8_lt _) _ (pick3 _) h2
  unfold leadsOn
  rw [this, Bool.and_false]


structure Good (s : ByteArray) : Prop where
  ok : memOk s = true
  le : s.size ≤ 65536
  fr : s.size % 256 = 0

theorem good_size {s t : ByteArray} (h : Good s) (e : t.size = s.size) : Good t := ⟨by have := h.ok; unfold memOk at this ⊢; rw [e]; exact this, by rw [e]; exact h.le, by rw [e]; exact h.fr⟩

theorem acc_need (e : Nat) (he : e < 4294967296) (acc : Int) : (((putE e acc : Nat) : Int) != (e : Int)) = (IntKind.wrap .i64 (((BitVec.ofInt 64 (e : Int) &&& BitVec.ofInt 64 (((if acc == 2 then 96 else 32 : Nat)) : Int)).toNat : Nat) : Int) != (((if acc == 2 then 96 else 32 : Nat)) : Int)) := by
  have key : ∀ d : Nat, d ≤ 96 → (((e ||| d : Nat) : Int) != (e : Int)) = (IntKind.wrap .i64 (((BitVec.ofInt 64 (e : Int) &&& BitVec.ofInt 64 (d : Int)).toNat : Nat) : Int) != (d : Int)) := by
    intro d hd
    rw [BitVec.toNat_and, ofInt_nat (by omega), ofInt_nat (by omega)]
    have h1 : e &&& d ≤ d := Nat.and_le_right
    rw [w64 (by omega) (by omega)]
    have h2 : (e ||| d = e) ↔ (e &&& d = d) := by
      constructor
      · intro h
        apply Nat.eq_of_testBit_eq
        intro i
        have := congrArg (fun x => x.testBit i) h
        simp only [Nat.testBit_or] at this
        rw [Nat.testBit_and]
        cases h3 : e.testBit i <;> cases h4 : d.testBit i <;> simp_all
      · intro h
        apply Nat.eq_of_testBit_eq
        intro i
        have := congrArg (fun x => x.testBit i) h
        simp only [Nat.testBit_and] at this
        rw [Nat.testBit_or]
        cases h3 : e.testBit i <;> cases h4 : d.testBit i <;> simp_all
    by_cases h : e ||| d = e
    · have h3 := h2.1 h
      rw [h, h3, bne_self_eq_false, bne_self_eq_false]
    · have h3 : ¬ e &&& d = d := fun x => h (h2.2 x)
      rw [show (((e ||| d : Nat) : Int) != (e : Int)) = true by simp; omega, show (((e &&& d : Nat) : Int) != (d : Int)) = true by simp; omega]
  unfold putE
  cases acc == 2
  · exact key 32 (by omega)
  · exact key 96 (by omega)

theorem place2 {s : ByteArray} {host gpa : Nat} {acc : Int} (hg : Good s) (hr : host ≤ 255) (hv : gpa < 262144) (ha : acc = 1 ∨ acc = 2 ∨ acc = 3) :
    ∃ m : Int, 0 ≤ m ∧ m ≤ 2 ∧
      (((∀ (st n4 : Int) (k : Int → ByteArray → Int → Int → Option R), 0 ≤ st → st ≤ 1000 → g_spec_l03Two_place_W N gpa acc s host st n4 k = k (-1) s (st + m) gpa) ∧
        (∀ (st n3 n4 n5 : Int) (b : Bool) (z : ByteArray) (k : Int → Bool → Int → Int → Int → List Int → Option R), 0 ≤ st → st ≤ 1000 → g_impl_WalkTwo_1_WWWw N gpa acc b host n3 n4 n5 st z (ofBytes s) k = k 0 false 3 gpa (st + m) (ofBytes s))) ∨
      ∃ (pa : Nat) (s1 : ByteArray), pa % 256 = gpa % 256 ∧ pa < s.size ∧ pa / 256 < s.size / 256 ∧ s1.size = s.size ∧ Good s1 ∧
        (∀ (st n4 : Int) (k : Int → ByteArray → Int → Int → Option R), 0 ≤ st → st ≤ 1000 → g_spec_l03Two_place_W N gpa acc s host st n4 k = k (pa : Int) s1 (st + m) n4) ∧
        (∀ (st n3 n4 n5 : Int) (b : Bool) (z : ByteArray) (k : Int → Bool → Int → Int → Int → List Int → Option R), 0 ≤ st → st ≤ 1000 → g_impl_WalkTwo_1_WWWw N gpa acc b host n3 n4 n5 st z (ofBytes s) k = k (pa : Int) true n3 n4 (st + m) (ofBytes s1))) := by
  obtain ⟨m, h0, h1, h⟩ := place_both N (R := R) hg.ok hg.le hg.fr hr hv ha
  refine ⟨m, h0, h1, ?_⟩
  rcases h with h | ⟨f, s1, hf, hs, hS, hI⟩
  · exact .inl h
  · have := hg.fr
    exact .inr ⟨f * 256 + gpa % 256, s1, by omega, by omega, by omega, hs, good_size hg hs, hS, hI⟩

/-- The last step. -/
theorem last_both {s : ByteArray} {host gpa : Nat} {acc st bad : Int} {b : Bool} {z : ByteArray} (hg : Good s) (hr : host ≤ 255) (hv : gpa < 262144) (ha : acc = 1 ∨ acc = 2 ∨ acc = 3) (h0 : 0 ≤ st) (h1 : st ≤ 1000) :
    ∃ (c g h st' acc' : Int) (m : ByteArray),
      (∀ k : Int → Int → Int → Int → ByteArray → Option R, (oK (cond (acc == 3) (some 1) (some acc)) fun j5 => g_spec_l03Two_place_W N (gpa : Int) j5 s (host : Int) st bad fun n16 s5 n17 n18 =>
        cond (decide (n16 < 0)) (g_spec_l03Two_answer_W N 3 n18 0 s5 (host : Int) n17 n18 (k 3 n18 0 n17 s5)) (g_spec_l03Two_answer_W N 0 (gpa : Int) n16 s5 (host : Int) n17 n18 (k 0 (gpa : Int) n16 n17 s5))) = k c g h st' m) ∧
      (∀ k : Int → Int → Int → Int → Int → List Int → Option R, cond (acc == 3)
        (g_impl_WalkTwo_1_WWWw N (gpa : Int) 1 b (host : Int) 0 0 0 st z (ofBytes s) fun n21 b6 n22 n23 n24 l5 => cond b6 (k n22 (gpa : Int) n21 n24 1 l5) (k n22 n23 0 n24 1 l5))
        (g_impl_WalkTwo_1_WWWw N (gpa : Int) acc b (host : Int) 0 0 0 st z (ofBytes s) fun n25 b7 n26 n27 n28 l6 => cond b7 (k n26 (gpa : Int) n25 n28 acc l6) (k n26 n27 0 n28 acc l6)) = k c g h st' acc' (ofBytes m)) := by
  have key : ∀ acc' : Int, (acc' = 1 ∨ acc' = 2 ∨ acc' = 3) → ∃ (c g h st' : Int) (m : ByteArray),
      (∀ k : Int → Int → Int → Int → ByteArray → Option R, (g_spec_l03Two_place_W N (gpa : Int) acc' s (host : Int) st bad fun n16 s5 n17 n18 =>
        cond (decide (n16 < 0)) (g_spec_l03Two_answer_W N 3 n18 0 s5 (host : Int) n17 n18 (k 3 n18 0 n17 s5)) (g_spec_l03Two_answer_W N 0 (gpa : Int) n16 s5 (host : Int) n17 n18 (k 0 (gpa : Int) n16 n17 s5))) = k c g h st' m) ∧
      (∀ k : Int → Int → Int → Int → Int → List Int → Option R, (g_impl_WalkTwo_1_WWWw N (gpa : Int) acc' b (host : Int) 0 0 0 st z (ofBytes s) fun n25 b7 n26 n27 n28 l6 => cond b7 (k n26 (gpa : Int) n25 n28 acc' l6) (k n26 n27 0 n28 acc' l6)) = k c g h st' acc' (ofBytes m)) := by
    intro acc' ha'
    obtain ⟨m, hm0, hm1, hp⟩ := place2 N (R := R) hg hr hv ha'
    rcases hp with ⟨hS, hI⟩ | ⟨pa, s1, _, _, _, _, _, hS, hI⟩
    · refine ⟨3, gpa, 0, st + m, s, fun k => ?_, fun k => ?_⟩
      · rw [hS _ _ _ h0 h1]; rfl
      · rw [hI _ _ _ _ _ _ _ h0 h1]; rfl
    · refine ⟨0, gpa, pa, st + m, s1, fun k => ?_, fun k => ?_⟩
      · rw [hS _ _ _ h0 h1, decide_eq_false (show ¬ (pa : Int) < 0 by omega), cond_false]; rfl
      · rw [hI _ _ _ _ _ _ _ h0 h1]; rfl
  cases h3 : (acc == 3) with
  | true =>
    obtain ⟨c, g, h, st', m, hS, hI⟩ := key 1 (.inl rfl)
    exact ⟨c, g, h, st', 1, m, hS, hI⟩
  | false =>
    obtain ⟨c, g, h, st', m, hS, hI⟩ := key acc ha
    exact ⟨c, g, h, st', acc, m, hS, hI⟩

noncomputable def specFin (frame e at_ host va acc st bad : Int) (s : ByteArray) (k : Int → Int → Int → Int → ByteArray → Option R) : Option R :=
  oK (some frame) fun j3 =>
    cond (decide (j3 ≥ 1024)) (g_spec_l03Two_answer_W N 2 0 0 s host st bad (k 2 0 0 st s))
      (oK (cond (acc == 2) (some (IntKind.wrap .i64 (((BitVec.ofInt 64 (IntKind.wrap .i64 (((BitVec.ofInt 64 e ||| BitVec.ofInt 64 32).toNat : Nat) : Int)) ||| BitVec.ofInt 64 64).toNat : Nat) : Int))) (some (IntKind.wrap .i64 (((BitVec.ofInt 64 e ||| BitVec.ofInt 64 32).toNat : Nat) : Int)))) fun j4 =>
        cond (j4 != e)
          (g_spec_l03Two_place_W N at_ 2 s host st bad fun n13 s3 n14 n15 =>
            cond (decide (n13 < 0)) (g_spec_l03Two_answer_W N 3 n15 0 s3 host n14 n15 (k 3 n15 0 n14 s3))
              (g_spec_SetWord N s3 n13 j4 fun s4 =>
                oK (cond (acc == 3) (some 1) (some acc)) fun j5 =>
                g_spec_l03Two_place_W N (IntKind.wrap .i64 (IntKind.wrap .i64 (j3 * 256) + Int.tmod va 256)) j5 s4 host n14 n15 fun n16 s5 n17 n18 =>
                  cond (decide (n16 < 0)) (g_spec_l03Two_answer_W N 3 n18 0 s5 host n17 n18 (k 3 n18 0 n17 s5)) (g_spec_l03Two_answer_W N 0 (IntKind.wrap .i64 (IntKind.wrap .i64 (j3 * 256) + Int.tmod va 256)) n16 s5 host n17 n18 (k 0 (IntKind.wrap .i64 (IntKind.wrap .i64 (j3 * 256) + Int.tmod va 256)) n16 n17 s5))))
          (oK (cond (acc == 3) (some 1) (some acc)) fun j6 =>
            g_spec_l03Two_place_W N (IntKind.wrap .i64 (IntKind.wrap .i64 (j3 * 256) + Int.tmod va 256)) j6 s host st bad fun n19 s6 n20 n21 =>
              cond (decide (n19 < 0)) (g_spec_l03Two_answer_W N 3 n21 0 s6 host n20 n21 (k 3 n21 0 n20 s6)) (g_spec_l03Two_answer_W N 0 (IntKind.wrap .i64 (IntKind.wrap .i64 (j3 * 256) + Int.tmod va 256)) n19 s6 host n20 n21 (k 0 (IntKind.wrap .i64 (IntKind.wrap .i64 (j3 * 256) + Int.tmod va 256)) n19 n20 s6))))

def implGpa (j va : Int) : Int := IntKind.wrap .i64 (IntKind.wrap .i64 (j * 256) + IntKind.wrap .i64 (((BitVec.ofInt 64 va &&& BitVec.ofInt 64 255).toNat : Nat) : Int))

noncomputable def implFin (frame e at_ host va acc st : Int) (b : Bool) (z : ByteArray) (l2 : List Int) (k : Int → Int → Int → Int → Int → List Int → Option R) : Option R :=
  oK (some frame) fun j2 =>
    cond (decide (j2 ≥ 1024)) (k 2 0 0 st acc l2)
      (g_impl_yputs N acc fun n16 =>
        cond (IntKind.wrap .i64 (((BitVec.ofInt 64 e &&& BitVec.ofInt 64 n16).toNat : Nat) : Int) != n16)
          (g_impl_WalkTwo_1_WWWw N at_ 2 b host 0 0 0 st z l2 fun n17 b5 n18 n19 n20 l3 =>
            cond (!b5) (k n18 n19 0 n20 acc l3)
              (g_impl_yputWord_w N b n17 (IntKind.wrap .i64 (((BitVec.ofInt 64 e ||| BitVec.ofInt 64 n16).toNat : Nat) : Int)) l3 fun l4 =>
                cond (acc == 3)
                  (g_impl_WalkTwo_1_WWWw N (implGpa j2 va) 1 b host n18 n19 0 n20 z l4 fun n21 b6 n22 n23 n24 l5 => cond b6 (k n22 (implGpa j2 va) n21 n24 1 l5) (k n22 n23 0 n24 1 l5))
                  (g_impl_WalkTwo_1_WWWw N (implGpa j2 va) acc b host n18 n19 0 n20 z l4 fun n25 b7 n26 n27 n28 l6 => cond b7 (k n26 (implGpa j2 va) n25 n28 acc l6) (k n26 n27 0 n28 acc l6))))
          (cond (acc == 3)
            (g_impl_WalkTwo_1_WWWw N (implGpa j2 va) 1 b host 0 0 0 st z l2 fun n29 b8 n30 n31 n32 l7 => cond b8 (k n30 (implGpa j2 va) n29 n32 1 l7) (k n30 n31 0 n32 1 l7))
            (g_impl_WalkTwo_1_WWWw N (implGpa j2 va) acc b host 0 0 0 st z l2 fun n33 b9 n34 n35 n36 l8 => cond b9 (k n34 (implGpa j2 va) n33 n36 acc l8) (k n34 n35 0 n36 acc l8))))

theorem fin_both {s : ByteArray} {host va e gp frame : Nat} {acc st bad : Int} {b : Bool} {z : ByteArray} (hg : Good s) (hr : host ≤ 255) (hv : va < 262144) (he : e < 4294967296) (hgp : gp < 262144) (hgp4 : gp % 4 = 0) (hfr : frame < 2 ^ 40) (ha : acc = 1 ∨ acc = 2 ∨ acc = 3) (h0 : 0 ≤ st) (h1 : st ≤ 500) :
    ∃ (c g h st' acc' : Int) (m : ByteArray), (∀ k : Int → Int → Int → Int → ByteArray → Option R, specFin N frame e gp host va acc st bad s k = k c g h st' m) ∧
      (∀ k : Int → Int → Int → Int → Int → List Int → Option R, implFin N frame e gp host va acc st b z (ofBytes s) k = k c g h st' acc' (ofBytes m)) := by
  by_cases hf : frame ≥ 1024
  · refine ⟨2, 0, 0, st, acc, s, fun k => ?_, fun k => ?_⟩
    · unfold specFin
      rw [oK_some_eq, decide_eq_true (show (frame : Int) ≥ 1024 by omega), cond_true]; rfl
    · unfold implFin
      rw [oK_some_eq, decide_eq_true (show (frame : Int) ≥ 1024 by omega), cond_true]
  have g1 : IntKind.wrap .i64 (IntKind.wrap .i64 ((frame : Int) * 256) + Int.tmod (va : Int) 256) = ((frame * 256 + va % 256 : Nat) : Int) := by
    rw [tmod_nn (by omega), w64 (n := (frame : Int) * 256) (by omega) (by omega), w64 (by omega) (by omega)]; omega
  have g2 : implGpa (frame : Int) (va : Int) = ((frame * 256 + va % 256 : Nat) : Int) := by
    unfold implGpa
    rw [and255, w64 (n := (frame : Int) * 256) (by omega) (by omega), w64 (by omega) (by omega)]; omega
  cases hne : (IntKind.wrap .i64 (((BitVec.ofInt 64 (e : Int) &&& BitVec.ofInt 64 (((if acc == 2 then 96 else 32 : Nat)) : Int)).toNat : Nat) : Int) != (((if acc == 2 then 96 else 32 : Nat)) : Int)) with
  | false =>
    obtain ⟨c, g, h, st', acc', m, hS, hI⟩ := last_both N (R := R) (bad := bad) (b := b) (z := z) hg hr (show frame * 256 + va % 256 < 262144 by omega) ha h0 (show st ≤ 1000 by omega)
    refine ⟨c, g, h, st', acc', m, fun k => ?_, fun k => ?_⟩
    · unfold specFin
      rw [oK_some_eq, decide_eq_false (show ¬ (frame : Int) ≥ 1024 by omega), cond_false, putE_spec he acc, oK_some_eq, acc_need e he acc, hne, cond_false, g1]
      exact hS k
    · unfold implFin
      rw [oK_some_eq, decide_eq_false (show ¬ (frame : Int) ≥ 1024 by omega), cond_false, impl_yputs_eq, hne, cond_false, g2]
      exact hI k
  | true =>
    obtain ⟨m0, hm0, hm1, hp⟩ := place2 N (R := R) hg hr hgp (acc := 2) (.inr (.inl rfl))
    rcases hp with ⟨hS, hI⟩ | ⟨pa, s1, p1, p2, p3, p4, p5, hS, hI⟩
    · refine ⟨3, gp, 0, st + m0, acc, s, fun k => ?_, fun k => ?_⟩
      · unfold specFin
        rw [oK_some_eq, decide_eq_false (show ¬ (frame : Int) ≥ 1024 by omega), cond_false, putE_spec he acc, oK_some_eq, acc_need e he acc, hne, cond_true, hS _ _ _ h0 (by omega)]; rfl
      · unfold implFin
        rw [oK_some_eq, decide_eq_false (show ¬ (frame : Int) ≥ 1024 by omega), cond_false, impl_yputs_eq, hne, cond_true, hI _ _ _ _ _ _ _ h0 (by omega)]; rfl
    · have hpa : pa + 4 ≤ s1.size := by have := p5.fr; omega
      have hor : IntKind.wrap .i64 (((BitVec.ofInt 64 (e : Int) ||| BitVec.ofInt 64 (((if acc == 2 then 96 else 32 : Nat)) : Int)).toNat : Nat) : Int) = ((putE e acc : Nat) : Int) := by
        unfold putE
        exact or_nat (by omega) (by split <;> omega)
      obtain ⟨c, g, h, st', acc', m, hS2, hI2⟩ := last_both N (R := R) (bad := bad) (b := b) (z := z) (good_size p5 (setWord_size hpa ((putE e acc : Nat) : Int))) hr (show frame * 256 + va % 256 < 262144 by omega) ha (show 0 ≤ st + m0 by omega) (show st + m0 ≤ 1000 by omega)
      refine ⟨c, g, h, st', acc', m, fun k => ?_, fun k => ?_⟩
      · unfold specFin
        rw [oK_some_eq, decide_eq_false (show ¬ (frame : Int) ≥ 1024 by omega), cond_false, putE_spec he acc, oK_some_eq, acc_need e he acc, hne, cond_true, hS _ _ _ h0 (by omega), decide_eq_false (show ¬ (pa : Int) < 0 by omega), cond_false, spec_SetWord_eq N hpa p5.le, g1]
        exact hS2 k
      · unfold implFin
        rw [oK_some_eq, decide_eq_false (show ¬ (frame : Int) ≥ 1024 by omega), cond_false, impl_yputs_eq, hne, cond_true, hI _ _ _ _ _ _ _ h0 (by omega), Bool.not_true, cond_false, hor, impl_yputWord_eq N hpa (by have := p5.le; omega), g2]
        exact hI2 k

theorem spec_two_test (a b c d e f g h : Bool) (K : Bool → Option R) : (oK (cond ((cond a (0 : Int) 1) != 0) (some true) (cond b (some true) (cond c (some true) (cond d (some true) (cond e (some true) (cond f (some true) (cond g (some true) (some (!h)))))))))  K) = K (!a || (b || (c || (d || (e || (f || (g || !h))))))) := by
  cases a <;> cases b <;> cases c <;> cases d <;> cases e <;> cases f <;> cases g <;> rfl

def accOk (acc : Int) : Bool := acc == 1 || (acc == 2 || acc == 3)

theorem spec_l03Acc_all (acc : Int) (k : Bool → Option R) : g_spec_l03Acc N acc k = k (accOk acc) := by
  unfold g_spec_l03Acc accOk
  cases acc == 1 <;> cases acc == 2 <;> cases acc == 3 <;> rfl

def twoBad (s : ByteArray) (host root va acc : Int) : Bool := !memOk s || (!(decide (host ≥ 0) && decide (host ≤ 255)) || !(decide (root ≥ 0) && decide (root ≤ 255) && (decide (va ≥ 0) && decide (va ≤ 262143)) && accOk acc))

theorem twoBad_facts {s : ByteArray} {host root va acc : Int} (h : twoBad s host root va acc = false) : Good s ∧ ∃ ho ro v : Nat, host = (ho : Int) ∧ root = (ro : Int) ∧ va = (v : Int) ∧ ho ≤ 255 ∧ ro ≤ 255 ∧ v < 262144 ∧ (acc = 1 ∨ acc = 2 ∨ acc = 3) := by
  unfold twoBad at h
  simp only [Bool.or_eq_false_iff, Bool.not_eq_false', Bool.and_eq_true, decide_eq_true_eq] at h
  obtain ⟨h1, h2, ⟨h3, h4⟩, h5⟩ := h
  have hm := h1
  unfold memOk at hm
  simp only [Bool.and_eq_true, decide_eq_true_eq] at hm
  have h6 : Int.tmod (s.size : Int) 256 = 0 := by simpa using hm.2.2
  rw [tmod_nn (by omega)] at h6
  unfold accOk at h5
  simp only [Bool.or_eq_true, beq_iff_eq] at h5
  obtain ⟨ho, rfl⟩ := Int.eq_ofNat_of_zero_le h2.1
  obtain ⟨ro, rfl⟩ := Int.eq_ofNat_of_zero_le h3.1
  obtain ⟨v, rfl⟩ := Int.eq_ofNat_of_zero_le h4.1
  exact ⟨⟨h1, by omega, by omega⟩, ho, ro, v, rfl, rfl, rfl, by omega, by omega, by omega, h5⟩


theorem impl_walkOk_eq (root va acc : Int) (k : Bool → Option R) : g_impl_ywalkOk N root va acc k = k (decide (root ≥ 0) && decide (root ≤ 255) && (decide (va ≥ 0) && decide (va ≤ 262143)) && accOk acc) := by
  have h : (decide (acc ≥ 1) && decide (acc ≤ 3)) = accOk acc := by
    unfold accOk
    rw [Bool.eq_iff_iff]; simp; omega
  unfold g_impl_ywalkOk
  rw [impl_yin_eq, impl_yin_eq, impl_yin_eq, h]
  cases decide (root ≥ 0) && decide (root ≤ 255) <;> cases decide (va ≥ 0) && decide (va ≤ 262143) <;> rfl

theorem low_eq (e : Nat) : IntKind.wrap .i64 (((BitVec.ofInt 64 (e : Int) &&& BitVec.ofInt 64 255).toNat : Nat) : Int) = ((low8 (e : Int) : Nat) : Int) := by
  rw [and255]; unfold low8; omega

theorem mem_end (m : ByteArray) (X : ByteArray → Option R) : cond (Nat.ble (0 + (ofBytes m).length) (ofBytes m).length) (X (toBytes (seg (ofBytes m) 0 (ofBytes m).length))) none = X m := by
  rw [Nat.zero_add, ble_t (Nat.le_refl _), cond_true, toBytes_all]

theorem read2 {s : ByteArray} {host gpa : Nat} (hg : Good s) (hr : host ≤ 255) (hv : gpa < 262144) (h4 : gpa % 256 ≤ 252) :
    ∃ m : Int, 0 ≤ m ∧ m ≤ 2 ∧
      (((∀ (st n4 : Int) (k : Int → ByteArray → Int → Int → Option R), 0 ≤ st → st ≤ 1000 → g_spec_l03Two_place_W N gpa 1 s host st n4 k = k (-1) s (st + m) gpa) ∧
        (∀ (st n3 n4 n5 : Int) (b : Bool) (z : ByteArray) (k : Int → Bool → Int → Int → Int → List Int → Option R), 0 ≤ st → st ≤ 1000 → g_impl_WalkTwo_2_1_WWWWw N gpa n3 n4 n5 st z b host (ofBytes s) k = k 0 false 3 gpa (st + m) (ofBytes s))) ∨
      ∃ (pa e : Nat) (s1 : ByteArray), pa + 4 ≤ s1.size ∧ Good s1 ∧ e < 4294967296 ∧ wordAt s1 pa = (e : Int) ∧
        (∀ (st n4 : Int) (k : Int → ByteArray → Int → Int → Option R), 0 ≤ st → st ≤ 1000 → g_spec_l03Two_place_W N gpa 1 s host st n4 k = k (pa : Int) s1 (st + m) n4) ∧
        (∀ (st n3 n4 n5 : Int) (b : Bool) (z : ByteArray) (k : Int → Bool → Int → Int → Int → List Int → Option R), 0 ≤ st → st ≤ 1000 → g_impl_WalkTwo_2_1_WWWWw N gpa n3 n4 n5 st z b host (ofBytes s) k = k (e : Int) true n3 n4 (st + m + 1) (ofBytes s1))) := by
  obtain ⟨m, hm0, hm1, hp⟩ := place2 N (R := R) hg hr hv (acc := 1) (.inl rfl)
  refine ⟨m, hm0, hm1, ?_⟩
  rcases hp with ⟨hS, hI⟩ | ⟨pa, s1, p1, p2, p3, p4, p5, hS, hI⟩
  · refine .inl ⟨hS, fun st n3 n4 n5 b z k h0 h1 => ?_⟩
    unfold g_impl_WalkTwo_2_1_WWWWw
    rw [hI _ _ _ _ _ _ _ h0 h1]; rfl
  · have hpa : pa + 4 ≤ s1.size := by have := p5.fr; omega
    refine .inr ⟨pa, wordN s1 pa, s1, hpa, p5, wordN_lt s1 pa, wordN_cast s1 pa, hS, fun st n3 n4 n5 b z k h0 h1 => ?_⟩
    unfold g_impl_WalkTwo_2_1_WWWWw
    rw [hI _ _ _ _ _ _ _ h0 h1, Bool.not_true, cond_false, impl_ygetWord_eq N hpa (by have := p5.le; omega), wordN_cast, w64 (n := st + m + 1) (by omega) (by omega)]
end
end Go.Sa
