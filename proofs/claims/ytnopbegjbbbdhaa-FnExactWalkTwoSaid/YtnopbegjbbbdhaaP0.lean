import Derived.Test.YtnopbegjbbbdhaaW3
set_option linter.all false
namespace Go.Sa
open Go Go.Eng
section
variable {R : Type} (N : Nat)
variable {R : Type}

@[simp] theorem impl_yin_eq (a lo hi : Int) (k : Bool → Option R) : g_impl_yin N a lo hi k = k (decide (a ≥ lo) && decide (a ≤ hi)) := by
  simp [g_impl_yin]

def word (n : Int) : Int := n % 4294967296

def putWord (n : Int) : ByteArray := toBytes [word n % 256, word n / 256 % 256, word n / 65536 % 256, word n / 16777216 % 256]

theorem putWord_size (n : Int) : (putWord n).size = 4 := toBytes_size _

theorem spec_l01Mod_eq {n m : Int} (hm : 0 < m) (hm2 : m ≤ 2 ^ 62) (k : Int → Option R) : g_spec_l01Mod N n m k = k (n % m) := by
  unfold g_spec_l01Mod
  obtain ⟨h1, h2⟩ := tmod_bound (n := n) hm
  rw [show (m == 0) = false by rw [beq_dec]; exact decide_eq_false (by omega), ← tmod_add (n := n) hm]
  by_cases h : n.tmod m < 0
  · rw [decide_eq_true h, if_pos h, w64 (by omega) (by omega)]; rfl
  · rw [decide_eq_false h, if_neg h]; rfl

theorem spec_Word_eq (n : Int) (k : Int → Option R) : g_spec_Word N n k = k (word n) := by
  unfold g_spec_Word
  rw [spec_l01Mod_eq N (by omega) (by omega)]
  rfl

theorem spec_PutWord_eq (n : Int) (k : ByteArray → Option R) : g_spec_PutWord N n k = k (putWord n) := by
  simp only [g_spec_PutWord, spec_Word_eq, Go.Eng.wu8, fdiv_lit _ (show (0 : Int) ≤ 256 by omega), fdiv_lit _ (show (0 : Int) ≤ 65536 by omega), fdiv_lit _ (show (0 : Int) ≤ 16777216 by omega), seg_all]
  rfl


def wordAt (s : ByteArray) (i : Nat) : Int := bt s i + bt s (i + 1) * 256 + bt s (i + 2) * 65536 + bt s (i + 3) * 16777216

theorem wordAt_bound (s : ByteArray) (i : Nat) : 0 ≤ wordAt s i ∧ wordAt s i < 4294967296 := by
  have h0 := bt_bound s i
  have h1 := bt_bound s (i + 1)
  have h2 := bt_bound s (i + 2)
  have h3 := bt_bound s (i + 3)
  unfold wordAt
  omega

theorem spec_l01Word_eq {s : ByteArray} {i : Nat} (h : i + 4 ≤ s.size) (hs : s.size ≤ 2 ^ 60) (k : Int → Option R) : g_spec_l01Word N s (i : Int) k = k (wordAt s i) := by
  have h0 := bt_bound s i
  have h1 := bt_bound s (i + 1)
  have h2 := bt_bound s (i + 2)
  have h3 := bt_bound s (i + 3)
  have e1 : IntKind.wrap .i64 ((i : Int) + 1) = ((i + 1 : Nat) : Int) := by rw [w64 (by omega) (by omega)]; omega
  have e2 : IntKind.wrap .i64 ((i : Int) + 2) = ((i + 2 : Nat) : Int) := by rw [w64 (by omega) (by omega)]; omega
  have e3 : IntKind.wrap .i64 ((i : Int) + 3) = ((i + 3 : Nat) : Int) := by rw [w64 (by omega) (by omega)]; omega
  simp only [g_spec_l01Word, e1, e2, e3, dec_nn, dec_lt (show i < s.size by omega), dec_lt (show i + 1 < s.size by omega), dec_lt (show i + 2 < s.size by omega), dec_lt (show i + 3 < s.size by omega), Bool.and_true, cond_true, Int.toNat_natCast]
  rw [w64 (n := bt s i) (by omega) (by omega), w64 (n := bt s (i + 1)) (by omega) (by omega), w64 (n := bt s (i + 2)) (by omega) (by omega), w64 (n := bt s (i + 3)) (by omega) (by omega), w64 (n := bt s (i + 1) * 256) (by omega) (by omega), w64 (n := bt s (i + 2) * 65536) (by omega) (by omega), w64 (n := bt s (i + 3) * 16777216) (by omega) (by omega), w64 (n := bt s i + bt s (i + 1) * 256) (by omega) (by omega), w64 (n := bt s i + bt s (i + 1) * 256 + bt s (i + 2) * 65536) (by omega) (by omega), w64 (n := bt s i + bt s (i + 1) * 256 + bt s (i + 2) * 65536 + bt s (i + 3) * 16777216) (by omega) (by omega)]
  rfl

theorem or_word (a b c d : Int) (ha : 0 ≤ a ∧ a ≤ 255) (hb : 0 ≤ b ∧ b ≤ 255) (hc : 0 ≤ c ∧ c ≤ 255) (hd : 0 ≤ d ∧ d ≤ 255) :
    IntKind.wrap .i64 (((BitVec.ofInt 64 (IntKind.wrap .i64 (((BitVec.ofInt 64 (IntKind.wrap .i64 (((BitVec.ofInt 64 a ||| BitVec.ofInt 64 (b * 256)).toNat : Nat) : Int)) ||| BitVec.ofInt 64 (c * 65536)).toNat : Nat) : Int)) ||| BitVec.ofInt 64 (d * 16777216)).toNat : Nat) : Int) = a + b * 256 + c * 65536 + d * 16777216 := by
  have com : ∀ x y : Int, (BitVec.ofInt 64 x ||| BitVec.ofInt 64 y) = (BitVec.ofInt 64 y ||| BitVec.ofInt 64 x) := fun x y => BitVec.or_comm _ _
  have h1 := or_add (a := b * 256) (b := a) 8 (by omega) (by omega) (by omega) (by omega) (by omega)
  have h2 := or_add (a := c * 65536) (b := b * 256 + a) 16 (by omega) (by omega) (by omega) (by omega) (by omega)
  have h3 := or_add (a := d * 16777216) (b := c * 65536 + (b * 256 + a)) 24 (by omega) (by omega) (by omega) (by omega) (by omega)
  rw [com a, h1, com (b * 256 + a), h2, com (c * 65536 + (b * 256 + a)), h3]
  omega

def memOk (s : ByteArray) : Bool := decide ((s.size : Int) ≥ 256) && (decide ((s.size : Int) ≤ 65536) && (Int.tmod (s.size : Int) 256 == 0))

theorem impl_ymemOk_eq (s : ByteArray) (k : Bool → Option R) : g_impl_ymemOk N s k = k (memOk s) := by
  unfold g_impl_ymemOk memOk
  cases decide ((s.size : Int) ≥ 256) <;> cases decide ((s.size : Int) ≤ 65536) <;> rfl

theorem spec_MemFault_eq (s : ByteArray) (k : Int → Option R) : g_spec_MemFault N s k = k (cond (memOk s) 0 1) := by
  have e : ((s.size : Int) == 0 || (Int.tmod (s.size : Int) 256 != 0 || decide ((s.size : Int) > 65536))) = !memOk s := by
    unfold memOk
    rw [Int.tmod_eq_emod_of_nonneg (by omega), Bool.eq_iff_iff]
    have h0 : (0 : Int) ≤ (s.size : Int) := by omega
    generalize (s.size : Int) = m at h0 ⊢
    simp
    omega
  unfold g_spec_MemFault
  simp only [cond_somes, oK_some_eq, Bool.cond_true_left, e]
  cases memOk s <;> rfl

theorem ofBytes_length (s : ByteArray) : (ofBytes s).length = s.size := by
  unfold ofBytes
  rw [List.length_map, Array.length_toList]
  rfl

theorem nth_ofBytes {s : ByteArray} {i : Nat} (h : i < s.size) : nth (ofBytes s) i = some (bt s i) := by
  have h' : i < s.data.toList.length := by rw [Array.length_toList]; exact h
  unfold ofBytes bt
  rw [nth_eq, List.getElem?_map, List.getElem?_eq_getElem h', List.getD_eq_getElem?_getD, List.getElem?_eq_getElem h']
  rfl

theorem toBytes_ofBytes (s : ByteArray) : toBytes (ofBytes s) = s := by
  obtain ⟨⟨l⟩⟩ := s
  unfold toBytes ofBytes
  simp only [List.map_map]
  have : (l.map ((fun x : Int => UInt8.ofNat x.toNat) ∘ fun c : UInt8 => (c.toNat : Int))) = l := by
    rw [List.map_congr_left (g := id) (fun c _ => by simp), List.map_id]
  rw [this]

theorem ofBytes_append (s t : ByteArray) : ofBytes (s ++ t) = ofBytes s ++ ofBytes t := by
  obtain ⟨⟨a⟩⟩ := s
  obtain ⟨⟨b⟩⟩ := t
  have e : (⟨⟨a⟩⟩ ++ ⟨⟨b⟩⟩ : ByteArray).data = (⟨a⟩ ++ ⟨b⟩ : Array UInt8) := ByteArray.data_append
  unfold ofBytes
  rw [e]
  simp

theorem ofBytes_extract (s : ByteArray) (i j : Nat) : ofBytes (s.extract i j) = ((ofBytes s).take j).drop i := by
  unfold ofBytes
  rw [ByteArray.data_extract, Array.toList_extract, List.extract_eq_drop_take, ← List.map_take, ← List.map_drop, List.drop_take]

theorem ofBytes_toBytes {l : List Int} (h : ∀ x ∈ l, 0 ≤ x ∧ x < 256) : ofBytes (toBytes l) = l := by
  unfold ofBytes toBytes
  simp only [List.map_map]
  rw [List.map_congr_left (g := id) (fun x hx => ?_), List.map_id]
  have := h x hx
  simp
  omega

theorem ofBytes_putWord (v : Int) : ofBytes (putWord v) = [v % 256, v / 256 % 256, v / 65536 % 256, v / 16777216 % 256] := by
  unfold putWord
  rw [ofBytes_toBytes (by intro x hx; simp only [List.mem_cons, List.not_mem_nil, or_false] at hx; omega)]
  unfold word
  simp only [List.cons.injEq, and_true]
  omega

def setWord (s : ByteArray) (i : Nat) (v : Int) : ByteArray := (s.extract 0 i ++ putWord v) ++ s.extract (i + 4) s.size

theorem ofBytes_setWord {s : ByteArray} {i : Nat} (h : i + 4 ≤ s.size) (v : Int) :
    nset (nset (nset (nset (ofBytes s) i (v % 256)) (i + 1) (v / 256 % 256)) (i + 2) (v / 65536 % 256)) (i + 3) (v / 16777216 % 256) = ofBytes (setWord s i v) := by
  have hl := ofBytes_length s
  unfold setWord
  rw [ofBytes_append, ofBytes_append, ofBytes_extract, ofBytes_extract, ofBytes_putWord, ← hl]
  rw [← hl] at h
  generalize ofBytes s = l at h ⊢
  simp only [List.drop_zero, List.take_length]
  apply List.ext_getElem?
  intro j
  rw [← nth_eq]
  simp only [nth_nset, nset_length]
  rw [List.append_assoc, List.getElem?_append, List.getElem?_append]
  simp only [List.length_take, List.length_cons, List.length_nil, Nat.min_eq_left (show i ≤ l.length by omega)]
  by_cases h0 : j < i
  · rw [if_neg (by omega), if_neg (by omega), if_neg (by omega), if_neg (by omega), if_pos h0, List.getElem?_take_of_lt h0, nth_eq]
  · rw [if_neg h0]
    by_cases h4 : j - i < 0 + 1 + 1 + 1 + 1
    · rw [if_pos h4]
      obtain ⟨d, rfl⟩ : ∃ d, j = i + d := ⟨j - i, by omega⟩
      rw [show i + d - i = d by omega] at h4 ⊢
      match d, h4 with
      | 0, _ => rw [if_neg (by omega), if_neg (by omega), if_neg (by omega), if_pos (by omega)]; rfl
      | 1, _ => rw [if_neg (by omega), if_neg (by omega), if_pos (by omega)]; rfl
      | 2, _ => rw [if_neg (by omega), if_pos (by omega)]; rfl
      | 3, _ => rw [if_pos (by omega)]; rfl
    · rw [if_neg h4, if_neg (by omega), if_neg (by omega), if_neg (by omega), if_neg (by omega), List.getElem?_drop, nth_eq]
      congr 1
      omega

theorem setWord_size {s : ByteArray} {i : Nat} (h : i + 4 ≤ s.size) (v : Int) : (setWord s i v).size = s.size := by
  unfold setWord
  rw [ByteArray.size_append, ByteArray.size_append, ByteArray.size_extract, ByteArray.size_extract, putWord_size]
  omega


theorem impl_ygetWord_eq {s : ByteArray} {i : Nat} {b : Bool} (h : i + 4 ≤ s.size) (hs : s.size ≤ 2 ^ 60) (k : Int → Option R) : g_impl_ygetWord_w N b (i : Int) (ofBytes s) k = k (wordAt s i) := by
  have h0 := bt_bound s i
  have h1 := bt_bound s (i + 1)
  have h2 := bt_bound s (i + 2)
  have h3 := bt_bound s (i + 3)
  have e1 : IntKind.wrap .i64 ((i : Int) + 1) = ((i + 1 : Nat) : Int) := by rw [w64 (by omega) (by omega)]; omega
  have e2 : IntKind.wrap .i64 ((i : Int) + 2) = ((i + 2 : Nat) : Int) := by rw [w64 (by omega) (by omega)]; omega
  have e3 : IntKind.wrap .i64 ((i : Int) + 3) = ((i + 3 : Nat) : Int) := by rw [w64 (by omega) (by omega)]; omega
  simp only [g_impl_ygetWord_w, e1, e2, e3, dec_nn, ofBytes_length, dec_lt (show i < s.size by omega), dec_lt (show i + 1 < s.size by omega), dec_lt (show i + 2 < s.size by omega), dec_lt (show i + 3 < s.size by omega), Bool.and_true, cond_true, Int.toNat_natCast,
    elemK_some (nth_ofBytes (show i < s.size by omega)), elemK_some (nth_ofBytes (show i + 1 < s.size by omega)), elemK_some (nth_ofBytes (show i + 2 < s.size by omega)), elemK_some (nth_ofBytes (show i + 3 < s.size by omega))]
  rw [w64 (n := bt s i) (by omega) (by omega), w64 (n := bt s (i + 1)) (by omega) (by omega), w64 (n := bt s (i + 2)) (by omega) (by omega), w64 (n := bt s (i + 3)) (by omega) (by omega), w64 (n := bt s (i + 1) * 256) (by omega) (by omega), w64 (n := bt s (i + 2) * 65536) (by omega) (by omega), w64 (n := bt s (i + 3) * 16777216) (by omega) (by omega), or_word _ _ _ _ h0 h1 h2 h3]
  rfl

theorem impl_yputWord_eq {s : ByteArray} {i : Nat} {v : Int} {b : Bool} (h : i + 4 ≤ s.size) (hs : s.size ≤ 2 ^ 60) (k : List Int → Option R) : g_impl_yputWord_w N b (i : Int) v (ofBytes s) k = k (ofBytes (setWord s i v)) := by
  have e1 : IntKind.wrap .i64 ((i : Int) + 1) = ((i + 1 : Nat) : Int) := by rw [w64 (by omega) (by omega)]; omega
  have e2 : IntKind.wrap .i64 ((i : Int) + 2) = ((i + 2 : Nat) : Int) := by rw [w64 (by omega) (by omega)]; omega
  have e3 : IntKind.wrap .i64 ((i : Int) + 3) = ((i + 3 : Nat) : Int) := by rw [w64 (by omega) (by omega)]; omega
  have hl := ofBytes_length s
  rw [← ofBytes_setWord h]
  generalize ofBytes s = l at hl ⊢
  obtain ⟨x0, hx0⟩ := nth_some (l := l) (n := i) (by omega)
  obtain ⟨x1, hx1⟩ := nth_some (l := nset l i (v % 256)) (n := i + 1) (by rw [nset_length]; omega)
  obtain ⟨x2, hx2⟩ := nth_some (l := nset (nset l i (v % 256)) (i + 1) (v / 256 % 256)) (n := i + 2) (by simp only [nset_length]; omega)
  obtain ⟨x3, hx3⟩ := nth_some (l := nset (nset (nset l i (v % 256)) (i + 1) (v / 256 % 256)) (i + 2) (v / 65536 % 256)) (n := i + 3) (by simp only [nset_length]; omega)
  simp only [g_impl_yputWord_w, e1, e2, e3, Go.Eng.wu8, fdiv_lit _ (show (0 : Int) ≤ 256 by omega), fdiv_lit _ (show (0 : Int) ≤ 65536 by omega), fdiv_lit _ (show (0 : Int) ≤ 16777216 by omega), dec_nn, nset_length, dec_lt (show i < l.length by omega), dec_lt (show i + 1 < l.length by omega), dec_lt (show i + 2 < l.length by omega), dec_lt (show i + 3 < l.length by omega), Bool.and_true, cond_true, Int.toNat_natCast,
    elemK_some hx0, elemK_some hx1, elemK_some hx2, elemK_some hx3, blt_t (show i < l.length by omega), blt_t (show i + 1 < l.length by omega), blt_t (show i + 2 < l.length by omega), blt_t (show i + 3 < l.length by omega)]

theorem spec_GetWord_eq {s : ByteArray} {i : Nat} (h : i + 4 ≤ s.size) (hs : s.size ≤ 65536) (k : Bool → Int → Option R) : g_spec_GetWord N s (i : Int) k = k true (wordAt s i) := by
  unfold g_spec_GetWord
  rw [w64 (n := (s.size : Int) - 4) (by omega) (by omega), decide_eq_false (show ¬ (s.size : Int) > 65536 by omega), decide_eq_false (show ¬ (i : Int) < 0 by omega), decide_eq_false (show ¬ (i : Int) > (s.size : Int) - 4 by omega)]
  simp only [cond_false, oK_some_eq]
  exact spec_l01Word_eq N h (by omega) _

theorem spec_SetWord_eq {s : ByteArray} {i : Nat} {v : Int} (h : i + 4 ≤ s.size) (hs : s.size ≤ 65536) (k : ByteArray → Option R) : g_spec_SetWord N s (i : Int) v k = k (setWord s i v) := by
  unfold g_spec_SetWord setWord
  have e1 : IntKind.wrap .i64 ((i : Int) + 4) = ((i + 4 : Nat) : Int) := by rw [w64 (by omega) (by omega)]; omega
  rw [spec_GetWord_eq N h hs]
  simp only [e1, dec_nn, Int.toNat_natCast, decide_eq_true (show ((i : Int) ≤ (s.size : Int)) by omega), decide_eq_true (show (((i + 4 : Nat) : Int) ≤ (s.size : Int)) by omega), Bool.and_true, Bool.not_true, cond_false, cond_true, Int.le_refl, decide_true, spec_PutWord_eq, putWord_size]
  rw [ble_t (by rw [ByteArray.size_extract]; omega), cond_true, ble_t (by rw [ByteArray.size_append, ByteArray.size_extract, ByteArray.size_extract, putWord_size]; omega), cond_true]


/-- The low eight bits. -/
def low8 (n : Int) : Nat := (n % 256).toNat

theorem low8_lt (n : Int) : low8 n < 256 := by unfold low8; omega

theorem and_low (n : Int) (c : Nat) (hc : c < 256) : IntKind.wrap .i64 (((BitVec.ofInt 64 n &&& BitVec.ofInt 64 (c : Int)).toNat : Nat) : Int) = ((low8 n &&& c : Nat) : Int) := by
  have h1 : (BitVec.ofInt 64 n).toNat = (n % 18446744073709551616).toNat := by rw [BitVec.toNat_ofInt]; rfl
  have h2 : (n % 18446744073709551616).toNat &&& c = low8 n &&& c := by
    have e : low8 n = (n % 18446744073709551616).toNat % 256 := by unfold low8; omega
    rw [e]
    generalize (n % 18446744073709551616).toNat = a
    apply Nat.eq_of_testBit_eq
    intro i
    rw [Nat.testBit_and, Nat.testBit_and, show (256 : Nat) = 2 ^ 8 from rfl, Nat.testBit_mod_two_pow]
    by_cases hi : i < 8
    · rw [decide_eq_true hi, Bool.true_and]
    · have : c.testBit i = false := Nat.testBit_lt_two_pow (Nat.lt_of_lt_of_le hc (by
        calc (256 : Nat) = 2 ^ 8 := rfl
          _ ≤ 2 ^ i := Nat.pow_le_pow_right (by omega) (by omega)))
      rw [this, Bool.and_false, Bool.and_false]
  rw [BitVec.toNat_and, h1, ofInt_nat (show c < 2 ^ 64 by omega), h2]
  have : low8 n &&& c ≤ c := Nat.and_le_right
  rw [w64 (by omega) (by omega)]

/-- Whether an entry lets this kind of access. -/
def letsB (e : Nat) (acc : Int) (user : Bool) : Bool :=
  !((e &&& 1) == 0) && (!((e &&& (if acc == 2 then 4 else if acc == 3 then 8 else 2)) == 0) && (if user then !((e &&& 16) == 0) else (acc != 3 || (e &&& 16) == 0)))

theorem spec_l03May_eq (n acc : Int) (user : Bool) (k : Bool → Option R) : g_spec_l03May N n acc user k = k (!((low8 n &&& (if acc == 2 then 4 else if acc == 3 then 8 else 2)) == 0) && (if user then !((low8 n &&& 16) == 0) else (acc != 3 || (low8 n &&& 16) == 0))) := by
  have a4 : IntKind.wrap .i64 (((BitVec.ofInt 64 n &&& BitVec.ofInt 64 4).toNat : Nat) : Int) = ((low8 n &&& 4 : Nat) : Int) := and_low n 4 (by omega)
  have a8 : IntKind.wrap .i64 (((BitVec.ofInt 64 n &&& BitVec.ofInt 64 8).toNat : Nat) : Int) = ((low8 n &&& 8 : Nat) : Int) := and_low n 8 (by omega)
  have a2 : IntKind.wrap .i64 (((BitVec.ofInt 64 n &&& BitVec.ofInt 64 2).toNat : Nat) : Int) = ((low8 n &&& 2 : Nat) : Int) := and_low n 2 (by omega)
  have a16 : IntKind.wrap .i64 (((BitVec.ofInt 64 n &&& BitVec.ofInt 64 16).toNat : Nat) : Int) = ((low8 n &&& 16 : Nat) : Int) := and_low n 16 (by omega)
  have z : ∀ m : Nat, (((m : Nat) : Int) == 0) = (m == 0) := fun m => by rw [Bool.eq_iff_iff]; simp
  have z2 : ∀ m : Nat, (((m : Nat) : Int) != 0) = !(m == 0) := fun m => by rw [Bool.eq_iff_iff]; simp
  have n3 : (acc != 3) = !(acc == 3) := rfl
  unfold g_spec_l03May
  rw [n3]
  simp only [cond_somes, oK_some_eq]
  cases h2 : (acc == 2) <;> cases h3 : (acc == 3) <;> cases user <;>
    simp only [cond_true, cond_false, a4, a8, a2, a16, z, z2, Bool.not_true, Bool.not_false, Bool.false_or, Bool.true_or, if_true, if_false, Bool.false_eq_true, Bool.and_true]
  all_goals first
    | (cases (low8 n &&& 2 == 0) <;> rfl)
    | (cases (low8 n &&& 4 == 0) <;> rfl)
    | (cases (low8 n &&& 8 == 0) <;> rfl)

theorem low8_low8 (e : Int) : low8 ((low8 e : Nat) : Int) = low8 e := by unfold low8; omega

theorem want_k : ∀ m : Nat, m < 256 → ((m &&& 3 == 3) = (!(m &&& 1 == 0) && !(m &&& 2 == 0))) ∧ ((m &&& 5 == 5) = (!(m &&& 1 == 0) && !(m &&& 4 == 0))) ∧ ((m &&& 9 == 9) = (!(m &&& 1 == 0) && !(m &&& 8 == 0))) ∧
    ((m &&& 19 == 19) = (!(m &&& 1 == 0) && (!(m &&& 2 == 0) && !(m &&& 16 == 0)))) ∧ ((m &&& 21 == 21) = (!(m &&& 1 == 0) && (!(m &&& 4 == 0) && !(m &&& 16 == 0)))) ∧ ((m &&& 25 == 25) = (!(m &&& 1 == 0) && (!(m &&& 8 == 0) && !(m &&& 16 == 0)))) := by decide +kernel

theorem impl_ylets_eq (e acc : Int) (ha : acc = 1 ∨ acc = 2 ∨ acc = 3) (user : Bool) (k : Bool → Option R) : g_impl_ylets N ((low8 e : Nat) : Int) acc user k = k (letsB (low8 e) acc user) := by
  obtain ⟨w1, w2, w3, w4, w5, w6⟩ := want_k (low8 e) (low8_lt e)
  have a : ∀ c : Nat, c < 256 → IntKind.wrap .i64 (((BitVec.ofInt 64 ((low8 e : Nat) : Int) &&& BitVec.ofInt 64 (c : Int)).toNat : Nat) : Int) = ((low8 e &&& c : Nat) : Int) := fun c hc => by rw [and_low _ c hc, low8_low8]
  have z : ∀ m c : Nat, (((m : Nat) : Int) == ((c : Nat) : Int)) = (m == c) := fun m c => by rw [Bool.eq_iff_iff]; simp; omega
  have o1 : IntKind.wrap .i64 (((BitVec.ofInt 64 (IntKind.wrap .i64 (((BitVec.ofInt 64 0 ||| BitVec.ofInt 64 2).toNat : Nat) : Int)) ||| BitVec.ofInt 64 1).toNat : Nat) : Int) = ((3 : Nat) : Int) := by decide
  have o2 : IntKind.wrap .i64 (((BitVec.ofInt 64 (IntKind.wrap .i64 (((BitVec.ofInt 64 0 ||| BitVec.ofInt 64 4).toNat : Nat) : Int)) ||| BitVec.ofInt 64 1).toNat : Nat) : Int) = ((5 : Nat) : Int) := by decide
  have o3 : IntKind.wrap .i64 (((BitVec.ofInt 64 (IntKind.wrap .i64 (((BitVec.ofInt 64 0 ||| BitVec.ofInt 64 8).toNat : Nat) : Int)) ||| BitVec.ofInt 64 1).toNat : Nat) : Int) = ((9 : Nat) : Int) := by decide
  have o4 : IntKind.wrap .i64 (((BitVec.ofInt 64 (IntKind.wrap .i64 (((BitVec.ofInt 64 16 ||| BitVec.ofInt 64 2).toNat : Nat) : Int)) ||| BitVec.ofInt 64 1).toNat : Nat) : Int) = ((19 : Nat) : Int) := by decide
  have o5 : IntKind.wrap .i64 (((BitVec.ofInt 64 (IntKind.wrap .i64 (((BitVec.ofInt 64 16 ||| BitVec.ofInt 64 4).toNat : Nat) : Int)) ||| BitVec.ofInt 64 1).toNat : Nat) : Int) = ((21 : Nat) : Int) := by decide
  have o6 : IntKind.wrap .i64 (((BitVec.ofInt 64 (IntKind.wrap .i64 (((BitVec.ofInt 64 16 ||| BitVec.ofInt 64 8).toNat : Nat) : Int)) ||| BitVec.ofInt 64 1).toNat : Nat) : Int) = ((25 : Nat) : Int) := by decide
  have z16 : (IntKind.wrap .i64 (((BitVec.ofInt 64 ((low8 e : Nat) : Int) &&& BitVec.ofInt 64 16).toNat : Nat) : Int) == 0) = (low8 e &&& 16 == 0) := by rw [show (16 : Int) = ((16 : Nat) : Int) from rfl, a 16 (by omega)]; exact z _ 0
  have q1 : ((1 : Int) == 1) = true := rfl
  have q2 : ((2 : Int) == 1) = false := rfl
  have q3 : ((2 : Int) == 2) = true := rfl
  have q4 : ((3 : Int) == 1) = false := rfl
  have q5 : ((3 : Int) == 2) = false := rfl
  have q6 : ((3 : Int) == 3) = true := rfl
  have q7 : ((1 : Int) != 3) = true := rfl
  have q8 : ((2 : Int) != 3) = true := rfl
  have q9 : ((3 : Int) != 3) = false := rfl
  have q10 : ((1 : Int) == 2) = false := rfl
  have q11 : ((1 : Int) == 3) = false := rfl
  have q12 : ((2 : Int) == 3) = false := rfl
  unfold g_impl_ylets letsB
  rcases ha with rfl | rfl | rfl <;> cases user <;>
    simp only [cond_true, cond_false, oK_some_eq, cond_somes, q1, q2, q3, q4, q5, q6, q7, q8, q9, q10, q11, q12, o1, o2, o3, o4, o5, o6, a 3 (by omega), a 5 (by omega), a 9 (by omega), a 19 (by omega), a 21 (by omega), a 25 (by omega), z, z16, w1, w2, w3, w4, w5, w6, if_true, if_false, Bool.false_eq_true, Bool.true_or, Bool.false_or, Bool.and_true]
  all_goals first
    | rfl
    | (cases (low8 e &&& 1 == 0) <;> cases (low8 e &&& 2 == 0) <;> rfl)
    | (cases (low8 e &&& 1 == 0) <;> cases (low8 e &&& 4 == 0) <;> rfl)
    | (cases (low8 e &&& 1 == 0) <;> cases (low8 e &&& 8 == 0) <;> cases (low8 e &&& 16 == 0) <;> rfl)
    | (cases (low8 e &&& 1 == 0) <;> cases (low8 e &&& 2 == 0) <;> cases (low8 e &&& 16 == 0) <;> rfl)
    | (cases (low8 e &&& 1 == 0) <;> cases (low8 e &&& 4 == 0) <;> cases (low8 e &&& 16 == 0) <;> rfl)

structure Look where
  fault : Int
  pa : Int
  entryAt : Int
  old : Int
  entry : Int
  large : Bool
  r0 : Int
  r1 : Int
  many : Int

def wordN (s : ByteArray) (i : Nat) : Nat := (wordAt s i).toNat

theorem wordN_cast (s : ByteArray) (i : Nat) : wordAt s i = ((wordN s i : Nat) : Int) := by
  have := wordAt_bound s i
  unfold wordN
  omega

theorem wordN_lt (s : ByteArray) (i : Nat) : wordN s i < 4294967296 := by
  have := wordAt_bound s i
  unfold wordN
  omega

def putE (e : Nat) (acc : Int) : Nat := e ||| (if acc == 2 then 96 else 32)

/-- An entry leads on to another table. -/
def leadsOn (e : Nat) : Bool := !((low8 e &&& 1) == 0) && ((low8 e &&& 14) == 0)

/-- The place of an entry. -/
@[irreducible] def ent (t i : Nat) : Nat := t * 256 + 4 * i

theorem ent_eq (t i : Nat) : ent t i = t * 256 + 4 * i := by unfold ent; rfl

def look (s : ByteArray) (root va : Nat) (acc : Int) (user : Bool) : Look :=
  let fr := s.size / 256
  let a1 := ent root (va / 8192)
  let e := wordN s a1
  let a2 := ent (e / 256) (va / 256 % 32)
  let e2 := wordN s a2
  cond (decide (fr ≤ root)) ⟨2, 0, 0, 0, 0, false, 0, 0, 0⟩
    (cond (leadsOn e)
      (cond (decide (fr ≤ e / 256)) ⟨2, 0, a1, 0, 0, false, root, 0, 1⟩
        (cond (!letsB (low8 e2) acc user) ⟨1, 0, a2, 0, 0, false, root, (e / 256 : Nat), 2⟩
          (cond (decide (fr ≤ e2 / 256)) ⟨2, 0, a2, 0, 0, false, root, (e / 256 : Nat), 2⟩
            ⟨0, (e2 / 256 * 256 + va % 256 : Nat), a2, e2, putE e2 acc, false, root, (e / 256 : Nat), 2⟩)))
      (cond (!(e / 256 % 32 == 0)) ⟨1, 0, a1, 0, 0, false, root, 0, 1⟩
        (cond (!letsB (low8 e) acc user) ⟨1, 0, a1, 0, 0, false, root, 0, 1⟩
          (cond (decide (fr ≤ e / 256 + va / 256 % 32)) ⟨2, 0, a1, 0, 0, false, root, 0, 1⟩
            ⟨0, ((e / 256 + va / 256 % 32) * 256 + va % 256 : Nat), a1, e, putE e acc, true, root, 0, 1⟩))))

theorem or_nat {a b : Nat} (ha : a < 2 ^ 62) (hb : b < 2 ^ 62) : IntKind.wrap .i64 (((BitVec.ofInt 64 (a : Int) ||| BitVec.ofInt 64 (b : Int)).toNat : Nat) : Int) = ((a ||| b : Nat) : Int) := by
  rw [BitVec.toNat_or, ofInt_nat (by omega), ofInt_nat (by omega)]
  have := Nat.or_lt_two_pow ha hb
  rw [w64 (by omega) (by omega)]

theorem and31 (n : Int) : IntKind.wrap .i64 (((BitVec.ofInt 64 n &&& BitVec.ofInt 64 31).toNat : Nat) : Int) = n % 32 := and_mask n 5 (by omega)

theorem impl_yputs_eq (acc : Int) (k : Int → Option R) : g_impl_yputs N acc k = k (((if acc == 2 then 96 else 32 : Nat)) : Int) := by
  unfold g_impl_yputs
  cases h : acc == 2 <;> rfl

theorem impl_yframes_eq (s : ByteArray) (b : Bool) (hs : s.size ≤ 2 ^ 60) (k : Int → Option R) : g_impl_yframes_w N b (ofBytes s) k = k ((s.size / 256 : Nat) : Int) := by
  unfold g_impl_yframes_w
  rw [ofBytes_length, Int.tdiv_eq_ediv_of_nonneg (by omega), w64 (by omega) (by omega)]
  rfl

theorem low8_255 (e : Nat) : IntKind.wrap .i64 (((BitVec.ofInt 64 (e : Int) &&& BitVec.ofInt 64 255).toNat : Nat) : Int) = ((low8 (e : Int) : Nat) : Int) := by
  rw [and255]; unfold low8; omega

theorem leads_eq (e : Nat) : cond (IntKind.wrap .i64 (((BitVec.ofInt 64 (e : Int) &&& BitVec.ofInt 64 1).toNat : Nat) : Int) != 0) (some (IntKind.wrap .i64 (((BitVec.ofInt 64 (e : Int) &&& BitVec.ofInt 64 14).toNat : Nat) : Int) == 0)) (some false) = some (leadsOn e) := by
  have a1 : IntKind.wrap .i64 (((BitVec.ofInt 64 (e : Int) &&& BitVec.ofInt 64 1).toNat : Nat) : Int) = ((low8 e &&& 1 : Nat) : Int) := and_low _ 1 (by omega)
  have a14 : IntKind.wrap .i64 (((BitVec.ofInt 64 (e : Int) &&& BitVec.ofInt 64 14).toNat : Nat) : Int) = ((low8 e &&& 14 : Nat) : Int) := and_low _ 14 (by omega)
  have z : ∀ m : Nat, (((m : Nat) : Int) == 0) = (m == 0) := fun m => by rw [Bool.eq_iff_iff]; simp
  have z2 : ∀ m : Nat, (((m : Nat) : Int) != 0) = !(m == 0) := fun m => by rw [Bool.eq_iff_iff]; simp
  unfold leadsOn
  rw [a1, a14, z, z2]
  cases (low8 e &&& 1 == 0) <;> rfl

def Look.out (w : Look) (k : Int → Int → Int → Int → Int → Bool → Int → Int → Int → Option R) : Option R := k w.fault w.pa w.entryAt w.old w.entry w.large w.r0 w.r1 w.many

theorem impl_ylookup_eq {s : ByteArray} {root va : Nat} {acc : Int} {user b : Bool} (hs : s.size ≤ 65536) (h256 : s.size % 256 = 0) (hr : root ≤ 255) (hv : va < 262144) (ha : acc = 1 ∨ acc = 2 ∨ acc = 3) (k : Int → Int → Int → Int → Int → Bool → Int → Int → Int → Option R) :
    g_impl_ylookup_w N b root va acc user (ofBytes s) k = (look s root va acc user).out k := by
  unfold g_impl_ylookup_w look
  have e1 : IntKind.wrap .i64 (IntKind.wrap .i64 ((root : Int) * 256) + IntKind.wrap .i64 (4 * ((va : Int) / 8192 % 32))) = ((ent root (va / 8192) : Nat) : Int) := by
    rw [ent_eq, w64 (n := (root : Int) * 256) (by omega) (by omega), w64 (n := 4 * ((va : Int) / 8192 % 32)) (by omega) (by omega), w64 (by omega) (by omega)]; omega
  have hy : ∀ k : Int → Option R, g_impl_yframes_w N b (ofBytes s) k = k ((s.size / 256 : Nat) : Int) := impl_yframes_eq N s b (by omega)
  simp only [fdiv_lit _ (show (0 : Int) ≤ 256 by omega), fdiv_lit _ (show (0 : Int) ≤ 8192 by omega)]
  simp only [and31]
  simp only [e1]
  rw [hy]
  by_cases h0 : s.size / 256 ≤ root
  · rw [decide_eq_true (show ((root : Int) ≥ ((s.size / 256 : Nat) : Int)) by omega), decide_eq_true h0]; rfl
  rw [decide_eq_false (show ¬ ((root : Int) ≥ ((s.size / 256 : Nat) : Int)) by omega), decide_eq_false h0]
  rw [cond_false]
  rw [impl_ygetWord_eq N (show ent root (va / 8192) + 4 ≤ s.size by rw [ent_eq]; omega) (by omega), wordN_cast]
  have hlt := wordN_lt s (ent root (va / 8192))
  generalize wordN s (ent root (va / 8192)) = e at hlt ⊢
  rw [leads_eq, oK_some_eq]
  have ed : (e : Int) / 256 = ((e / 256 : Nat) : Int) := by omega
  rw [ed]
  cases hle : leadsOn e with
  | true =>
    rw [cond_true, hy]
    by_cases h1 : s.size / 256 ≤ e / 256
    · rw [decide_eq_true (show (((e / 256 : Nat) : Int) ≥ ((s.size / 256 : Nat) : Int)) by omega), decide_eq_true h1]; rfl
    rw [decide_eq_false (show ¬ (((e / 256 : Nat) : Int) ≥ ((s.size / 256 : Nat) : Int)) by omega), decide_eq_false h1]
    rw [cond_false]
    have e2 : IntKind.wrap .i64 (IntKind.wrap .i64 (((e / 256 : Nat) : Int) * 256) + IntKind.wrap .i64 (4 * ((va : Int) / 256 % 32))) = ((ent (e / 256) (va / 256 % 32) : Nat) : Int) := by
      rw [ent_eq, w64 (n := ((e / 256 : Nat) : Int) * 256) (by omega) (by omega), w64 (n := 4 * ((va : Int) / 256 % 32)) (by omega) (by omega), w64 (by omega) (by omega)]; omega
    rw [e2, impl_ygetWord_eq N (show ent (e / 256) (va / 256 % 32) + 4 ≤ s.size by rw [ent_eq]; omega) (by omega), wordN_cast]
    have hlt2 := wordN_lt s (ent (e / 256) (va / 256 % 32))
    generalize wordN s (ent (e / 256) (va / 256 % 32)) = e2 at hlt2 ⊢
    rw [low8_255, impl_ylets_eq N _ _ ha]
    cases hle2 : letsB (low8 e2) acc user with
    | false => rfl
    | true =>
      rw [Bool.not_true, cond_false, hy]
      rw [show (e2 : Int) / 256 = ((e2 / 256 : Nat) : Int) by omega]
      by_cases h2 : s.size / 256 ≤ e2 / 256
      · rw [decide_eq_true (show (((e2 / 256 : Nat) : Int) ≥ ((s.size / 256 : Nat) : Int)) by omega), decide_eq_true h2]; rfl
      rw [decide_eq_false (show ¬ (((e2 / 256 : Nat) : Int) ≥ ((s.size / 256 : Nat) : Int)) by omega), decide_eq_false h2, impl_yputs_eq, or_nat (by omega) (by split <;> omega), and255,
        w64 (n := ((e2 / 256 : Nat) : Int) * 256) (by omega) (by omega), w64 (n := ((e2 / 256 : Nat) : Int) * 256 + (va : Int) % 256) (by omega) (by omega)]
      rw [show ((e2 / 256 : Nat) : Int) * 256 + (va : Int) % 256 = ((e2 / 256 * 256 + va % 256 : Nat) : Int) by omega]
      rw [cond_false]
      rfl
  | false =>
    rw [cond_false]
    have hm : (Int.tmod ((e / 256 : Nat) : Int) 32 != 0) = !(e / 256 % 32 == 0) := by
      rw [Int.tmod_eq_emod_of_nonneg (by omega), Bool.eq_iff_iff]; simp; omega
    rw [hm]
    cases hle3 : e / 256 % 32 == 0 with
    | false => rfl
    | true =>
      rw [Bool.not_true, cond_false, cond_false, low8_255, impl_ylets_eq N _ _ ha]
      cases hle2 : letsB (low8 e) acc user with
      | false => rfl
      | true =>
        rw [Bool.not_true, cond_false, cond_false, hy, w64 (n := ((e / 256 : Nat) : Int) + (va : Int) / 256 % 32) (by omega) (by omega), show ((e / 256 : Nat) : Int) + (va : Int) / 256 % 32 = ((e / 256 + va / 256 % 32 : Nat) : Int) by omega]
        by_cases h2 : s.size / 256 ≤ e / 256 + va / 256 % 32
        · rw [decide_eq_true (show (((e / 256 + va / 256 % 32 : Nat) : Int) ≥ ((s.size / 256 : Nat) : Int)) by omega), decide_eq_true h2]; rfl
        rw [decide_eq_false (show ¬ (((e / 256 + va / 256 % 32 : Nat) : Int) ≥ ((s.size / 256 : Nat) : Int)) by omega), decide_eq_false h2, impl_yputs_eq, or_nat (by omega) (by split <;> omega), and255,
          w64 (n := ((e / 256 + va / 256 % 32 : Nat) : Int) * 256) (by omega) (by omega), w64 (n := ((e / 256 + va / 256 % 32 : Nat) : Int) * 256 + (va : Int) % 256) (by omega) (by omega), show ((e / 256 + va / 256 % 32 : Nat) : Int) * 256 + (va : Int) % 256 = (((e / 256 + va / 256 % 32) * 256 + va % 256 : Nat) : Int) by omega]
        rw [cond_false]
        rfl


theorem bits14 : ∀ m : Nat, m < 256 → ((m &&& 14 == 0) = true → (m &&& 2 == 0) = true ∧ (m &&& 4 == 0) = true ∧ (m &&& 8 == 0) = true) := by decide +kernel

/-- What the reference asks of an entry's bits. -/
theorem mayB (e : Nat) (acc : Int) (user : Bool) : ((low8 e &&& 1 == 0) || ((low8 e &&& 14 == 0) || !(!((low8 e &&& (if acc == 2 then 4 else if acc == 3 then 8 else 2)) == 0) && (if user then !((low8 e &&& 16) == 0) else (acc != 3 || (low8 e &&& 16) == 0))))) = !letsB (low8 e) acc user := by
  have h := bits14 (low8 e) (low8_lt e)
  unfold letsB
  cases h1 : (low8 e &&& 1 == 0)
  · cases h14 : (low8 e &&& 14 == 0)
    · rfl
    · obtain ⟨h2, h4, h8⟩ := h h14
      have : ((low8 e &&& (if acc == 2 then 4 else if acc == 3 then 8 else 2)) == 0) = true := by
        split
        · exact h4
        · split
          · exact h8
          · exact h2
      rw [this]; rfl
  · rfl

def framesOf (w : Look) : List Int := cond (w.many == 0) [] (cond (w.many == 1) [w.r0] [w.r0, w.r1])

theorem spec_l03Acc_eq {acc : Int} (ha : acc = 1 ∨ acc = 2 ∨ acc = 3) (k : Bool → Option R) : g_spec_l03Acc N acc k = k true := by
  rcases ha with rfl | rfl | rfl <;> rfl

theorem spec_l03Entry_no {s : ByteArray} {t i : Nat} (ht : t < 2 ^ 40) (h : s.size / 256 ≤ t) (k : Int → Bool → Option R) : g_spec_l03Entry N s t i k = k 0 false := by
  unfold g_spec_l03Entry
  rw [w64 (n := (t : Int) + 1) (by omega) (by omega), w64 (n := ((t : Int) + 1) * 256) (by omega) (by omega), decide_eq_true (show ((t : Int) + 1) * 256 > (s.size : Int) by omega)]
  rfl

theorem spec_l03Entry_yes {s : ByteArray} {t i : Nat} (hs : s.size ≤ 65536) (hi : i < 32) (h : ¬ s.size / 256 ≤ t) (k : Int → Bool → Option R) : g_spec_l03Entry N s t i k = k ((wordN s (ent t i) : Nat) : Int) true := by
  unfold g_spec_l03Entry
  rw [w64 (n := (t : Int) + 1) (by omega) (by omega), w64 (n := ((t : Int) + 1) * 256) (by omega) (by omega), decide_eq_false (show ¬ ((t : Int) + 1) * 256 > (s.size : Int) by omega), cond_false, w64 (n := (t : Int) * 256) (by omega) (by omega), w64 (n := 4 * (i : Int)) (by omega) (by omega), w64 (n := (t : Int) * 256 + 4 * (i : Int)) (by omega) (by omega), show (t : Int) * 256 + 4 * (i : Int) = ((ent t i : Nat) : Int) by rw [ent_eq]; omega,
    spec_l01Word_eq N (show ent t i + 4 ≤ s.size by rw [ent_eq]; omega) (by omega), wordN_cast]

/-- The flags put into an entry, in the reference's way. -/
theorem putE_spec {e : Nat} (he : e < 4294967296) (acc : Int) : cond (acc == 2) (some (IntKind.wrap .i64 (((BitVec.ofInt 64 (IntKind.wrap .i64 (((BitVec.ofInt 64 (e : Int) ||| BitVec.ofInt 64 32).toNat : Nat) : Int)) ||| BitVec.ofInt 64 64).toNat : Nat) : Int))) (some (IntKind.wrap .i64 (((BitVec.ofInt 64 (e : Int) ||| BitVec.ofInt 64 32).toNat : Nat) : Int))) = some ((putE e acc : Nat) : Int) := by
  have h32 : IntKind.wrap .i64 (((BitVec.ofInt 64 (e : Int) ||| BitVec.ofInt 64 32).toNat : Nat) : Int) = ((e ||| 32 : Nat) : Int) := or_nat (b := 32) (by omega) (by omega)
  have hb : e ||| 32 < 2 ^ 32 := Nat.or_lt_two_pow (by omega) (by omega)
  have h96 : IntKind.wrap .i64 (((BitVec.ofInt 64 ((e ||| 32 : Nat) : Int) ||| BitVec.ofInt 64 64).toNat : Nat) : Int) = ((e ||| 32 ||| 64 : Nat) : Int) := or_nat (b := 64) (by omega) (by omega)
  rw [h32, h96]
  unfold putE
  cases h : acc == 2
  · rfl
  · rw [Nat.or_assoc]; rfl

theorem may_eq (e : Nat) (acc : Int) (user : Bool) : cond (IntKind.wrap .i64 (((BitVec.ofInt 64 (e : Int) &&& BitVec.ofInt 64 1).toNat : Nat) : Int) == 0) (some true) (cond (IntKind.wrap .i64 (((BitVec.ofInt 64 (e : Int) &&& BitVec.ofInt 64 14).toNat : Nat) : Int) == 0) (some true) (g_spec_l03May N e acc user fun b => some (!b))) = some (!letsB (low8 e) acc user) := by
  have a1 : IntKind.wrap .i64 (((BitVec.ofInt 64 (e : Int) &&& BitVec.ofInt 64 1).toNat : Nat) : Int) = ((low8 e &&& 1 : Nat) : Int) := and_low _ 1 (by omega)
  have a14 : IntKind.wrap .i64 (((BitVec.ofInt 64 (e : Int) &&& BitVec.ofInt 64 14).toNat : Nat) : Int) = ((low8 e &&& 14 : Nat) : Int) := and_low _ 14 (by omega)
  have z : ∀ m : Nat, (((m : Nat) : Int) == 0) = (m == 0) := fun m => by rw [Bool.eq_iff_iff]; simp
  rw [a1, a14, z, z, spec_l03May_eq, ← mayB]
  cases (low8 e &&& 1 == 0) <;> cases (low8 e &&& 14 == 0) <;> rfl

theorem may_eq32 (e : Nat) (acc : Int) (user b : Bool) : cond (IntKind.wrap .i64 (((BitVec.ofInt 64 (e : Int) &&& BitVec.ofInt 64 1).toNat : Nat) : Int) == 0) (some true) (cond (IntKind.wrap .i64 (((BitVec.ofInt 64 (e : Int) &&& BitVec.ofInt 64 14).toNat : Nat) : Int) == 0) (some true) (cond b (some true) (g_spec_l03May N e acc user fun b => some (!b)))) = some (b || !letsB (low8 e) acc user) := by
  have h := may_eq N e acc user
  cases b
  · exact h
  · cases (IntKind.wrap .i64 (((BitVec.ofInt 64 (e : Int) &&& BitVec.ofInt 64 1).toNat : Nat) : Int) == 0) <;> cases (IntKind.wrap .i64 (((BitVec.ofInt 64 (e : Int) &&& BitVec.ofInt 64 14).toNat : Nat) : Int) == 0) <;> rfl


theorem spec_Walk_eq {s : ByteArray} {root va : Nat} {acc : Int} {user : Bool} (hm : memOk s = true) (hs : s.size ≤ 65536) (h256 : s.size % 256 = 0) (hr : root ≤ 255) (hv : va < 262144) (ha : acc = 1 ∨ acc = 2 ∨ acc = 3) (k : Int → Int → Int → Bool → Bool → ByteArray → List Int → Option R) :
    g_spec_Walk N s root va acc user k = k (look s root va acc user).fault (look s root va acc user).pa (look s root va acc user).entry (look s root va acc user).large false (cond ((look s root va acc user).fault == 0) (setWord s (look s root va acc user).entryAt.toNat (look s root va acc user).entry) s) (framesOf (look s root va acc user)) := by
  unfold g_spec_Walk
  rw [spec_MemFault_eq, hm, cond_true, show ((0 : Int) != 0) = false from rfl, cond_false, decide_eq_false (show ¬ (root : Int) < 0 by omega), cond_false, decide_eq_false (show ¬ (root : Int) > 255 by omega), cond_false, decide_eq_false (show ¬ (va : Int) < 0 by omega), cond_false, decide_eq_false (show ¬ (va : Int) ≥ 262144 by omega), cond_false, spec_l03Acc_eq N ha, oK_some_eq, Bool.not_true, cond_false]
  have f256 : ∀ n : Int, Int.fdiv n 256 = n / 256 := fun n => fdiv_lit n (by omega)
  have t32 : ∀ n : Nat, Int.tmod ((n : Nat) : Int) 32 = ((n % 32 : Nat) : Int) := fun n => by rw [Int.tmod_eq_emod_of_nonneg (by omega)]; omega
  have t256 : ∀ n : Nat, Int.tmod ((n : Nat) : Int) 256 = ((n % 256 : Nat) : Int) := fun n => by rw [Int.tmod_eq_emod_of_nonneg (by omega)]; omega
  have d256 : ∀ n : Nat, ((n : Nat) : Int) / 256 = ((n / 256 : Nat) : Int) := fun n => by omega
  rw [fdiv_lit _ (show (0 : Int) ≤ 8192 by omega), show (va : Int) / 8192 = ((va / 8192 : Nat) : Int) by omega]
  unfold look
  dsimp only
  by_cases h0 : s.size / 256 ≤ root
  · rw [spec_l03Entry_no N (by omega) h0, decide_eq_true h0]; rfl
  rw [spec_l03Entry_yes N hs (by omega) h0, decide_eq_false h0]
  have hlt := wordN_lt s (ent root (va / 8192))
  obtain ⟨e, hE⟩ : ∃ e, wordN s (ent root (va / 8192)) = e := ⟨_, rfl⟩
  rw [hE] at hlt
  rw [hE]
  rw [Bool.not_true, cond_false, leads_eq, oK_some_eq]
  cases hle : leadsOn e with
  | true =>
    rw [cond_true, cond_true, f256, d256, f256, d256, t32]
    by_cases h1 : s.size / 256 ≤ e / 256
    · rw [spec_l03Entry_no N (by omega) h1, decide_eq_true h1]; rfl
    rw [spec_l03Entry_yes N hs (by omega) h1, decide_eq_false h1]
    have hlt2 := wordN_lt s (ent (e / 256) (va / 256 % 32))
    obtain ⟨e2, hE2⟩ : ∃ e2, wordN s (ent (e / 256) (va / 256 % 32)) = e2 := ⟨_, rfl⟩
    rw [hE2] at hlt2
    rw [hE2, Bool.not_true, cond_false, cond_false, may_eq, oK_some_eq]
    cases hl2 : letsB (low8 e2) acc user with
    | false => rfl
    | true =>
      rw [Bool.not_true, cond_false, cond_false, oK_some_eq, f256, d256]
      by_cases h2 : s.size / 256 ≤ e2 / 256
      · rw [w64 (n := ((e2 / 256 : Nat) : Int) + 1) (by omega) (by omega), w64 (n := (((e2 / 256 : Nat) : Int) + 1) * 256) (by omega) (by omega), decide_eq_true (show (((e2 / 256 : Nat) : Int) + 1) * 256 > (s.size : Int) by omega), decide_eq_true h2]; rfl
      rw [w64 (n := ((e2 / 256 : Nat) : Int) + 1) (by omega) (by omega), w64 (n := (((e2 / 256 : Nat) : Int) + 1) * 256) (by omega) (by omega), decide_eq_false (show ¬ (((e2 / 256 : Nat) : Int) + 1) * 256 > (s.size : Int) by omega), decide_eq_false h2, cond_false, cond_false, putE_spec hlt2, oK_some_eq, t256,
        w64 (n := ((e / 256 : Nat) : Int) * 256) (by omega) (by omega), w64 (n := 4 * ((va / 256 % 32 : Nat) : Int)) (by omega) (by omega), w64 (n := ((e / 256 : Nat) : Int) * 256 + 4 * ((va / 256 % 32 : Nat) : Int)) (by omega) (by omega), show ((e / 256 : Nat) : Int) * 256 + 4 * ((va / 256 % 32 : Nat) : Int) = ((ent (e / 256) (va / 256 % 32) : Nat) : Int) by rw [ent_eq]; omega,
        spec_SetWord_eq N (show ent (e / 256) (va / 256 % 32) + 4 ≤ s.size by rw [ent_eq]; omega) hs,
        w64 (n := ((e2 / 256 : Nat) : Int) * 256) (by omega) (by omega), w64 (n := ((e2 / 256 : Nat) : Int) * 256 + ((va % 256 : Nat) : Int)) (by omega) (by omega), show ((e2 / 256 : Nat) : Int) * 256 + ((va % 256 : Nat) : Int) = ((e2 / 256 * 256 + va % 256 : Nat) : Int) by omega]
      rfl
  | false =>
    have hm32 : (Int.tmod ((e / 256 : Nat) : Int) 32 != 0) = !(e / 256 % 32 == 0) := by
      rw [t32, Bool.eq_iff_iff]; simp; omega
    rw [cond_false, cond_false, f256, d256, hm32, may_eq32, oK_some_eq]
    cases hl3 : e / 256 % 32 == 0 with
    | false => rfl
    | true =>
      rw [Bool.not_true, Bool.false_or, cond_false]
      cases hl2 : letsB (low8 e) acc user with
      | false => rfl
      | true =>
        rw [Bool.not_true, cond_false, cond_false, f256, d256, t32, w64 (n := ((e / 256 : Nat) : Int) + ((va / 256 % 32 : Nat) : Int)) (by omega) (by omega), oK_some_eq, show ((e / 256 : Nat) : Int) + ((va / 256 % 32 : Nat) : Int) = ((e / 256 + va / 256 % 32 : Nat) : Int) by omega]
        by_cases h2 : s.size / 256 ≤ e / 256 + va / 256 % 32
        · rw [w64 (n := ((e / 256 + va / 256 % 32 : Nat) : Int) + 1) (by omega) (by omega), w64 (n := (((e / 256 + va / 256 % 32 : Nat) : Int) + 1) * 256) (by omega) (by omega), decide_eq_true (show (((e / 256 + va / 256 % 32 : Nat) : Int) + 1) * 256 > (s.size : Int) by omega), decide_eq_true h2]; rfl
        rw [w64 (n := ((e / 256 + va / 256 % 32 : Nat) : Int) + 1) (by omega) (by omega), w64 (n := (((e / 256 + va / 256 % 32 : Nat) : Int) + 1) * 256) (by omega) (by omega), decide_eq_false (show ¬ (((e / 256 + va / 256 % 32 : Nat) : Int) + 1) * 256 > (s.size : Int) by omega), decide_eq_false h2, cond_false, cond_false, putE_spec hlt, oK_some_eq, t256,
          w64 (n := (root : Int) * 256) (by omega) (by omega), w64 (n := 4 * ((va / 8192 : Nat) : Int)) (by omega) (by omega), w64 (n := (root : Int) * 256 + 4 * ((va / 8192 : Nat) : Int)) (by omega) (by omega), show (root : Int) * 256 + 4 * ((va / 8192 : Nat) : Int) = ((ent root (va / 8192) : Nat) : Int) by rw [ent_eq]; omega,
          spec_SetWord_eq N (show ent root (va / 8192) + 4 ≤ s.size by rw [ent_eq]; omega) hs,
          w64 (n := ((e / 256 + va / 256 % 32 : Nat) : Int) * 256) (by omega) (by omega), w64 (n := ((e / 256 + va / 256 % 32 : Nat) : Int) * 256 + ((va % 256 : Nat) : Int)) (by omega) (by omega), show ((e / 256 + va / 256 % 32 : Nat) : Int) * 256 + ((va % 256 : Nat) : Int) = (((e / 256 + va / 256 % 32) * 256 + va % 256 : Nat) : Int) by omega]
        rfl


theorem look_facts (s : ByteArray) {root va : Nat} (acc : Int) (user : Bool) (hv : va < 262144) :
    ((look s root va acc user).many = 0 ∨ (look s root va acc user).many = 1 ∨ (look s root va acc user).many = 2) ∧
    ((look s root va acc user).fault = 0 → ∃ f t i : Nat, f < s.size / 256 ∧ t < s.size / 256 ∧ i < 32 ∧ (look s root va acc user).pa = ((f * 256 + va % 256 : Nat) : Int) ∧ (look s root va acc user).entryAt = ((ent t i : Nat) : Int)) := by
  unfold look
  dsimp only
  by_cases h0 : s.size / 256 ≤ root
  · rw [decide_eq_true h0]
    exact ⟨.inl rfl, fun h => absurd (show (2 : Int) = 0 from h) (by decide)⟩
  rw [decide_eq_false h0, cond_false]
  obtain ⟨e, hE⟩ : ∃ e, wordN s (ent root (va / 8192)) = e := ⟨_, rfl⟩
  rw [hE]
  cases leadsOn e with
  | true =>
    rw [cond_true]
    by_cases h1 : s.size / 256 ≤ e / 256
    · rw [decide_eq_true h1]
      exact ⟨.inr (.inl rfl), fun h => absurd (show (2 : Int) = 0 from h) (by decide)⟩
    rw [decide_eq_false h1, cond_false]
    obtain ⟨e2, hE2⟩ : ∃ e2, wordN s (ent (e / 256) (va / 256 % 32)) = e2 := ⟨_, rfl⟩
    rw [hE2]
    cases letsB (low8 e2) acc user with
    | false => exact ⟨.inr (.inr rfl), fun h => absurd (show (1 : Int) = 0 from h) (by decide)⟩
    | true =>
      rw [Bool.not_true, cond_false]
      by_cases h2 : s.size / 256 ≤ e2 / 256
      · rw [decide_eq_true h2]
        exact ⟨.inr (.inr rfl), fun h => absurd (show (2 : Int) = 0 from h) (by decide)⟩
      rw [decide_eq_false h2, cond_false]
      exact ⟨.inr (.inr rfl), fun _ => ⟨e2 / 256, e / 256, va / 256 % 32, by omega, by omega, by omega, rfl, rfl⟩⟩
  | false =>
    rw [cond_false]
    cases e / 256 % 32 == 0 with
    | false => exact ⟨.inr (.inl rfl), fun h => absurd (show (1 : Int) = 0 from h) (by decide)⟩
    | true =>
      rw [Bool.not_true, cond_false]
      cases letsB (low8 e) acc user with
      | false => exact ⟨.inr (.inl rfl), fun h => absurd (show (1 : Int) = 0 from h) (by decide)⟩
      | true =>
        rw [Bool.not_true, cond_false]
        by_cases h2 : s.size / 256 ≤ e / 256 + va / 256 % 32
        · rw [decide_eq_true h2]
          exact ⟨.inr (.inl rfl), fun h => absurd (show (2 : Int) = 0 from h) (by decide)⟩
        rw [decide_eq_false h2, cond_false]
        exact ⟨.inr (.inl rfl), fun _ => ⟨e / 256 + va / 256 % 32, root, va / 8192, by omega, by omega, by omega, rfl, rfl⟩⟩

theorem frames_len (w : Look) (h : w.many = 0 ∨ w.many = 1 ∨ w.many = 2) : (((framesOf w).length : Nat) : Int) = w.many := by
  unfold framesOf
  rcases h with h | h | h <;> rw [h] <;> rfl

/-- One step of a walk in two. -/
theorem place_both {s : ByteArray} {host gpa : Nat} {acc : Int} (hm : memOk s = true) (hs : s.size ≤ 65536) (h256 : s.size % 256 = 0) (hr : host ≤ 255) (hv : gpa < 262144) (ha : acc = 1 ∨ acc = 2 ∨ acc = 3) :
    ∃ m : Int, 0 ≤ m ∧ m ≤ 2 ∧
      (((∀ (st n4 : Int) (k : Int → ByteArray → Int → Int → Option R), 0 ≤ st → st ≤ 1000 → g_spec_l03Two_place_W N gpa acc s host st n4 k = k (-1) s (st + m) gpa) ∧
        (∀ (st n3 n4 n5 : Int) (b : Bool) (z : ByteArray) (k : Int → Bool → Int → Int → Int → List Int → Option R), 0 ≤ st → st ≤ 1000 → g_impl_WalkTwo_1_WWWw N gpa acc b host n3 n4 n5 st z (ofBytes s) k = k 0 false 3 gpa (st + m) (ofBytes s))) ∨
      ∃ (f : Nat) (s1 : ByteArray), f < s.size / 256 ∧ s1.size = s.size ∧
        (∀ (st n4 : Int) (k : Int → ByteArray → Int → Int → Option R), 0 ≤ st → st ≤ 1000 → g_spec_l03Two_place_W N gpa acc s host st n4 k = k ((f * 256 + gpa % 256 : Nat) : Int) s1 (st + m) n4) ∧
        (∀ (st n3 n4 n5 : Int) (b : Bool) (z : ByteArray) (k : Int → Bool → Int → Int → Int → List Int → Option R), 0 ≤ st → st ≤ 1000 → g_impl_WalkTwo_1_WWWw N gpa acc b host n3 n4 n5 st z (ofBytes s) k = k ((f * 256 + gpa % 256 : Nat) : Int) true n3 n4 (st + m) (ofBytes s1))) := by
  obtain ⟨h1, h2⟩ := look_facts s (root := host) acc false hv
  have hfl := frames_len _ h1
  have hsp := fun k => spec_Walk_eq N (R := R) (user := false) hm hs h256 hr hv ha k
  have him := fun (b : Bool) k => impl_ylookup_eq N (R := R) (user := false) (b := b) hs h256 hr hv ha k
  obtain ⟨w, hw⟩ : ∃ w, look s host gpa acc false = w := ⟨_, rfl⟩
  rw [hw] at h1 h2 hfl
  rw [hw] at hsp
  have hmb : 0 ≤ w.many ∧ w.many ≤ 2 := by rcases h1 with h | h | h <;> omega
  refine ⟨w.many, hmb.1, hmb.2, ?_⟩
  by_cases hf : w.fault = 0
  · obtain ⟨f, t, i, hf1, ht, hi, hpa, hea⟩ := h2 hf
    have hen : ent t i + 4 ≤ s.size := by rw [ent_eq]; omega
    refine .inr ⟨f, setWord s (ent t i) w.entry, hf1, setWord_size hen _, fun st n4 k h3 h4 => ?_, fun st n3 n4 n5 b z k h3 h4 => ?_⟩
    · unfold g_spec_l03Two_place_W
      rw [hsp, hf, show ((0 : Int) != 0) = false from rfl, cond_false, hfl, w64 (by omega) (by omega), hpa, hea]
      rfl
    · unfold g_impl_WalkTwo_1_WWWw
      rw [him, hw]
      unfold Look.out
      dsimp only
      rw [hf, show ((0 : Int) != 0) = false from rfl, cond_false, hea, impl_yputWord_eq N hen (by omega), w64 (by omega) (by omega), hpa]
  · have hf2 : (w.fault != 0) = true := by simpa using hf
    refine .inl ⟨fun st n4 k h3 h4 => ?_, fun st n3 n4 n5 b z k h3 h4 => ?_⟩
    · unfold g_spec_l03Two_place_W
      have hf3 : (w.fault == 0) = false := by simpa using hf
      rw [hsp, hf2, cond_true, hfl, w64 (by omega) (by omega)]
    · unfold g_impl_WalkTwo_1_WWWw
      rw [him, hw]
      unfold Look.out
      dsimp only
      rw [hf2, cond_true, w64 (by omega) (by omega)]


theorem toBytes_all (s : ByteArray) : toBytes (seg (ofBytes s) 0 (ofBytes s).length) = s := by rw [seg_all, toBytes_ofBytes]

theorem tmod_nn {n m : Int} (h : 0 ≤ n) : n.tmod m = n % m := Int.tmod_eq_emod_of_nonneg h

structure Good (s : ByteArray) : Prop where
  ok : memOk s = true
  le : s.size ≤ 65536
  fr : s.size % 256 = 0

theorem good_size {s t : ByteArray} (h : Good s) (e : t.size = s.size) : Good t := ⟨by have := h.ok; unfold memOk at this ⊢; rw [e]; exact this, by rw [e]; exact h.le, by rw [e]; exact h.fr⟩

theorem acc_need (e : Nat) (he : e < 4294967296) (acc : Int) : (((putE e acc : Nat) : Int) != (e : Int)) = (IntKind.wrap .i64 (((BitVec.ofInt 64 (e : Int) &&& BitVec.ofInt 64 (((if acc == 2 then 96 else 32 : Nat)) : Int)).toNat : Nat) : Int) != (((if acc == 2 then 96 else 32 : Nat)) : Int)) := by
  have key : ∀ d : Nat, d ≤ 96 → (((e ||| d : Nat) : Int) != (e : Int)) = (IntKind.wrap .i64 (((BitVec.ofInt 64 (e : Int) &&& BitVec.ofInt 64 (d : Int)).toNat : Nat) : Int) != (d : Int)) := by
    intro d hd
    rw [BitVec.toNat_and, ofInt_nat (by omega), ofInt_nat (by omega)]
    have h1 : e &&& d ≤ d := Nat.and_le_right
    rw [w64 (by omega) (by omega)]
    have h2 : (e ||| d = e) ↔ (e &&& d = d) := by
      constructor
      · intro h
        apply Nat.eq_of_testBit_eq
        intro i
        have := congrArg (fun x => x.testBit i) h
        simp only [Nat.testBit_or] at this
        rw [Nat.testBit_and]
        cases h3 : e.testBit i <;> cases h4 : d.testBit i <;> simp_all
      · intro h
        apply Nat.eq_of_testBit_eq
        intro i
        have := congrArg (fun x => x.testBit i) h
        simp only [Nat.testBit_and] at this
        rw [Nat.testBit_or]
        cases h3 : e.testBit i <;> cases h4 : d.testBit i <;> simp_all
    by_cases h : e ||| d = e
    · have h3 := h2.1 h
      rw [h, h3, bne_self_eq_false, bne_self_eq_false]
    · have h3 : ¬ e &&& d = d := fun x => h (h2.2 x)
      rw [show (((e ||| d : Nat) : Int) != (e : Int)) = true by simp; omega, show (((e &&& d : Nat) : Int) != (d : Int)) = true by simp; omega]
  unfold putE
  cases acc == 2
  · exact key 32 (by omega)
  · exact key 96 (by omega)

theorem place2 {s : ByteArray} {host gpa : Nat} {acc : Int} (hg : Good s) (hr : host ≤ 255) (hv : gpa < 262144) (ha : acc = 1 ∨ acc = 2 ∨ acc = 3) :
    ∃ m : Int, 0 ≤ m ∧ m ≤ 2 ∧
      (((∀ (st n4 : Int) (k : Int → ByteArray → Int → Int → Option R), 0 ≤ st → st ≤ 1000 → g_spec_l03Two_place_W N gpa acc s host st n4 k = k (-1) s (st + m) gpa) ∧
        (∀ (st n3 n4 n5 : Int) (b : Bool) (z : ByteArray) (k : Int → Bool → Int → Int → Int → List Int → Option R), 0 ≤ st → st ≤ 1000 → g_impl_WalkTwo_1_WWWw N gpa acc b host n3 n4 n5 st z (ofBytes s) k = k 0 false 3 gpa (st + m) (ofBytes s))) ∨
      ∃ (pa : Nat) (s1 : ByteArray), pa % 256 = gpa % 256 ∧ pa < s.size ∧ pa / 256 < s.size / 256 ∧ s1.size = s.size ∧ Good s1 ∧
        (∀ (st n4 : Int) (k : Int → ByteArray → Int → Int → Option R), 0 ≤ st → st ≤ 1000 → g_spec_l03Two_place_W N gpa acc s host st n4 k = k (pa : Int) s1 (st + m) n4) ∧
        (∀ (st n3 n4 n5 : Int) (b : Bool) (z : ByteArray) (k : Int → Bool → Int → Int → Int → List Int → Option R), 0 ≤ st → st ≤ 1000 → g_impl_WalkTwo_1_WWWw N gpa acc b host n3 n4 n5 st z (ofBytes s) k = k (pa : Int) true n3 n4 (st + m) (ofBytes s1))) := by
  obtain ⟨m, h0, h1, h⟩ := place_both N (R := R) hg.ok hg.le hg.fr hr hv ha
  refine ⟨m, h0, h1, ?_⟩
  rcases h with h | ⟨f, s1, hf, hs, hS, hI⟩
  · exact .inl h
  · have := hg.fr
    exact .inr ⟨f * 256 + gpa % 256, s1, by omega, by omega, by omega, hs, good_size hg hs, hS, hI⟩

/-- The last step. -/
theorem last_both {s : ByteArray} {host gpa : Nat} {acc st bad : Int} {b : Bool} {z : ByteArray} (hg : Good s) (hr : host ≤ 255) (hv : gpa < 262144) (ha : acc = 1 ∨ acc = 2 ∨ acc = 3) (h0 : 0 ≤ st) (h1 : st ≤ 1000) :
    ∃ (c g h st' acc' : Int) (m : ByteArray),
      (∀ k : Int → Int → Int → Int → ByteArray → Option R, (oK (cond (acc == 3) (some 1) (some acc)) fun j5 => g_spec_l03Two_place_W N (gpa : Int) j5 s (host : Int) st bad fun n16 s5 n17 n18 =>
        cond (decide (n16 < 0)) (g_spec_l03Two_answer_W N 3 n18 0 s5 (host : Int) n17 n18 (k 3 n18 0 n17 s5)) (g_spec_l03Two_answer_W N 0 (gpa : Int) n16 s5 (host : Int) n17 n18 (k 0 (gpa : Int) n16 n17 s5))) = k c g h st' m) ∧
      (∀ k : Int → Int → Int → Int → Int → List Int → Option R, cond (acc == 3)
        (g_impl_WalkTwo_1_WWWw N (gpa : Int) 1 b (host : Int) 0 0 0 st z (ofBytes s) fun n21 b6 n22 n23 n24 l5 => cond b6 (k n22 (gpa : Int) n21 n24 1 l5) (k n22 n23 0 n24 1 l5))
        (g_impl_WalkTwo_1_WWWw N (gpa : Int) acc b (host : Int) 0 0 0 st z (ofBytes s) fun n25 b7 n26 n27 n28 l6 => cond b7 (k n26 (gpa : Int) n25 n28 acc l6) (k n26 n27 0 n28 acc l6)) = k c g h st' acc' (ofBytes m)) := by
  have key : ∀ acc' : Int, (acc' = 1 ∨ acc' = 2 ∨ acc' = 3) → ∃ (c g h st' : Int) (m : ByteArray),
      (∀ k : Int → Int → Int → Int → ByteArray → Option R, (g_spec_l03Two_place_W N (gpa : Int) acc' s (host : Int) st bad fun n16 s5 n17 n18 =>
        cond (decide (n16 < 0)) (g_spec_l03Two_answer_W N 3 n18 0 s5 (host : Int) n17 n18 (k 3 n18 0 n17 s5)) (g_spec_l03Two_answer_W N 0 (gpa : Int) n16 s5 (host : Int) n17 n18 (k 0 (gpa : Int) n16 n17 s5))) = k c g h st' m) ∧
      (∀ k : Int → Int → Int → Int → Int → List Int → Option R, (g_impl_WalkTwo_1_WWWw N (gpa : Int) acc' b (host : Int) 0 0 0 st z (ofBytes s) fun n25 b7 n26 n27 n28 l6 => cond b7 (k n26 (gpa : Int) n25 n28 acc' l6) (k n26 n27 0 n28 acc' l6)) = k c g h st' acc' (ofBytes m)) := by
    intro acc' ha'
    obtain ⟨m, hm0, hm1, hp⟩ := place2 N (R := R) hg hr hv ha'
    rcases hp with ⟨hS, hI⟩ | ⟨pa, s1, _, _, _, _, _, hS, hI⟩
    · refine ⟨3, gpa, 0, st + m, s, fun k => ?_, fun k => ?_⟩
      · rw [hS _ _ _ h0 h1]; rfl
      · rw [hI _ _ _ _ _ _ _ h0 h1]; rfl
    · refine ⟨0, gpa, pa, st + m, s1, fun k => ?_, fun k => ?_⟩
      · rw [hS _ _ _ h0 h1, decide_eq_false (show ¬ (pa : Int) < 0 by omega), cond_false]; rfl
      · rw [hI _ _ _ _ _ _ _ h0 h1]; rfl
  cases h3 : (acc == 3) with
  | true =>
    obtain ⟨c, g, h, st', m, hS, hI⟩ := key 1 (.inl rfl)
    exact ⟨c, g, h, st', 1, m, hS, hI⟩
  | false =>
    obtain ⟨c, g, h, st', m, hS, hI⟩ := key acc ha
    exact ⟨c, g, h, st', acc, m, hS, hI⟩

def specFin (frame e at_ host va acc st bad : Int) (s : ByteArray) (k : Int → Int → Int → Int → ByteArray → Option R) : Option R :=
  oK (some frame) fun j3 =>
    cond (decide (j3 ≥ 1024)) (g_spec_l03Two_answer_W N 2 0 0 s host st bad (k 2 0 0 st s))
      (oK (cond (acc == 2) (some (IntKind.wrap .i64 (((BitVec.ofInt 64 (IntKind.wrap .i64 (((BitVec.ofInt 64 e ||| BitVec.ofInt 64 32).toNat : Nat) : Int)) ||| BitVec.ofInt 64 64).toNat : Nat) : Int))) (some (IntKind.wrap .i64 (((BitVec.ofInt 64 e ||| BitVec.ofInt 64 32).toNat : Nat) : Int)))) fun j4 =>
        cond (j4 != e)
          (g_spec_l03Two_place_W N at_ 2 s host st bad fun n13 s3 n14 n15 =>
            cond (decide (n13 < 0)) (g_spec_l03Two_answer_W N 3 n15 0 s3 host n14 n15 (k 3 n15 0 n14 s3))
              (g_spec_SetWord N s3 n13 j4 fun s4 =>
                oK (cond (acc == 3) (some 1) (some acc)) fun j5 =>
                g_spec_l03Two_place_W N (IntKind.wrap .i64 (IntKind.wrap .i64 (j3 * 256) + Int.tmod va 256)) j5 s4 host n14 n15 fun n16 s5 n17 n18 =>
                  cond (decide (n16 < 0)) (g_spec_l03Two_answer_W N 3 n18 0 s5 host n17 n18 (k 3 n18 0 n17 s5)) (g_spec_l03Two_answer_W N 0 (IntKind.wrap .i64 (IntKind.wrap .i64 (j3 * 256) + Int.tmod va 256)) n16 s5 host n17 n18 (k 0 (IntKind.wrap .i64 (IntKind.wrap .i64 (j3 * 256) + Int.tmod va 256)) n16 n17 s5))))
          (oK (cond (acc == 3) (some 1) (some acc)) fun j6 =>
            g_spec_l03Two_place_W N (IntKind.wrap .i64 (IntKind.wrap .i64 (j3 * 256) + Int.tmod va 256)) j6 s host st bad fun n19 s6 n20 n21 =>
              cond (decide (n19 < 0)) (g_spec_l03Two_answer_W N 3 n21 0 s6 host n20 n21 (k 3 n21 0 n20 s6)) (g_spec_l03Two_answer_W N 0 (IntKind.wrap .i64 (IntKind.wrap .i64 (j3 * 256) + Int.tmod va 256)) n19 s6 host n20 n21 (k 0 (IntKind.wrap .i64 (IntKind.wrap .i64 (j3 * 256) + Int.tmod va 256)) n19 n20 s6))))

def implGpa (j va : Int) : Int := IntKind.wrap .i64 (IntKind.wrap .i64 (j * 256) + IntKind.wrap .i64 (((BitVec.ofInt 64 va &&& BitVec.ofInt 64 255).toNat : Nat) : Int))

def implFin (frame e at_ host va acc st : Int) (b : Bool) (z : ByteArray) (l2 : List Int) (k : Int → Int → Int → Int → Int → List Int → Option R) : Option R :=
  oK (some frame) fun j2 =>
    cond (decide (j2 ≥ 1024)) (k 2 0 0 st acc l2)
      (g_impl_yputs N acc fun n16 =>
        cond (IntKind.wrap .i64 (((BitVec.ofInt 64 e &&& BitVec.ofInt 64 n16).toNat : Nat) : Int) != n16)
          (g_impl_WalkTwo_1_WWWw N at_ 2 b host 0 0 0 st z l2 fun n17 b5 n18 n19 n20 l3 =>
            cond (!b5) (k n18 n19 0 n20 acc l3)
              (g_impl_yputWord_w N b n17 (IntKind.wrap .i64 (((BitVec.ofInt 64 e ||| BitVec.ofInt 64 n16).toNat : Nat) : Int)) l3 fun l4 =>
                cond (acc == 3)
                  (g_impl_WalkTwo_1_WWWw N (implGpa j2 va) 1 b host n18 n19 0 n20 z l4 fun n21 b6 n22 n23 n24 l5 => cond b6 (k n22 (implGpa j2 va) n21 n24 1 l5) (k n22 n23 0 n24 1 l5))
                  (g_impl_WalkTwo_1_WWWw N (implGpa j2 va) acc b host n18 n19 0 n20 z l4 fun n25 b7 n26 n27 n28 l6 => cond b7 (k n26 (implGpa j2 va) n25 n28 acc l6) (k n26 n27 0 n28 acc l6))))
          (cond (acc == 3)
            (g_impl_WalkTwo_1_WWWw N (implGpa j2 va) 1 b host 0 0 0 st z l2 fun n29 b8 n30 n31 n32 l7 => cond b8 (k n30 (implGpa j2 va) n29 n32 1 l7) (k n30 n31 0 n32 1 l7))
            (g_impl_WalkTwo_1_WWWw N (implGpa j2 va) acc b host 0 0 0 st z l2 fun n33 b9 n34 n35 n36 l8 => cond b9 (k n34 (implGpa j2 va) n33 n36 acc l8) (k n34 n35 0 n36 acc l8))))

theorem fin_both {s : ByteArray} {host va e gp frame : Nat} {acc st bad : Int} {b : Bool} {z : ByteArray} (hg : Good s) (hr : host ≤ 255) (hv : va < 262144) (he : e < 4294967296) (hgp : gp < 262144) (hgp4 : gp % 4 = 0) (hfr : frame < 2 ^ 40) (ha : acc = 1 ∨ acc = 2 ∨ acc = 3) (h0 : 0 ≤ st) (h1 : st ≤ 500) :
    ∃ (c g h st' acc' : Int) (m : ByteArray), (∀ k : Int → Int → Int → Int → ByteArray → Option R, specFin N frame e gp host va acc st bad s k = k c g h st' m) ∧
      (∀ k : Int → Int → Int → Int → Int → List Int → Option R, implFin N frame e gp host va acc st b z (ofBytes s) k = k c g h st' acc' (ofBytes m)) := by
  by_cases hf : frame ≥ 1024
  · refine ⟨2, 0, 0, st, acc, s, fun k => ?_, fun k => ?_⟩
    · unfold specFin
      rw [oK_some_eq, decide_eq_true (show (frame : Int) ≥ 1024 by omega), cond_true]; rfl
    · unfold implFin
      rw [oK_some_eq, decide_eq_true (show (frame : Int) ≥ 1024 by omega), cond_true]
  have g1 : IntKind.wrap .i64 (IntKind.wrap .i64 ((frame : Int) * 256) + Int.tmod (va : Int) 256) = ((frame * 256 + va % 256 : Nat) : Int) := by
    rw [tmod_nn (by omega), w64 (n := (frame : Int) * 256) (by omega) (by omega), w64 (by omega) (by omega)]; omega
  have g2 : implGpa (frame : Int) (va : Int) = ((frame * 256 + va % 256 : Nat) : Int) := by
    unfold implGpa
    rw [and255, w64 (n := (frame : Int) * 256) (by omega) (by omega), w64 (by omega) (by omega)]; omega
  cases hne : (IntKind.wrap .i64 (((BitVec.ofInt 64 (e : Int) &&& BitVec.ofInt 64 (((if acc == 2 then 96 else 32 : Nat)) : Int)).toNat : Nat) : Int) != (((if acc == 2 then 96 else 32 : Nat)) : Int)) with
  | false =>
    obtain ⟨c, g, h, st', acc', m, hS, hI⟩ := last_both N (R := R) (bad := bad) (b := b) (z := z) hg hr (show frame * 256 + va % 256 < 262144 by omega) ha h0 (show st ≤ 1000 by omega)
    refine ⟨c, g, h, st', acc', m, fun k => ?_, fun k => ?_⟩
    · unfold specFin
      rw [oK_some_eq, decide_eq_false (show ¬ (frame : Int) ≥ 1024 by omega), cond_false, putE_spec he acc, oK_some_eq, acc_need e he acc, hne, cond_false, g1]
      exact hS k
    · unfold implFin
      rw [oK_some_eq, decide_eq_false (show ¬ (frame : Int) ≥ 1024 by omega), cond_false, impl_yputs_eq, hne, cond_false, g2]
      exact hI k
  | true =>
    obtain ⟨m0, hm0, hm1, hp⟩ := place2 N (R := R) hg hr hgp (acc := 2) (.inr (.inl rfl))
    rcases hp with ⟨hS, hI⟩ | ⟨pa, s1, p1, p2, p3, p4, p5, hS, hI⟩
    · refine ⟨3, gp, 0, st + m0, acc, s, fun k => ?_, fun k => ?_⟩
      · unfold specFin
        rw [oK_some_eq, decide_eq_false (show ¬ (frame : Int) ≥ 1024 by omega), cond_false, putE_spec he acc, oK_some_eq, acc_need e he acc, hne, cond_true, hS _ _ _ h0 (by omega)]; rfl
      · unfold implFin
        rw [oK_some_eq, decide_eq_false (show ¬ (frame : Int) ≥ 1024 by omega), cond_false, impl_yputs_eq, hne, cond_true, hI _ _ _ _ _ _ _ h0 (by omega)]; rfl
    · have hpa : pa + 4 ≤ s1.size := by have := p5.fr; omega
      have hor : IntKind.wrap .i64 (((BitVec.ofInt 64 (e : Int) ||| BitVec.ofInt 64 (((if acc == 2 then 96 else 32 : Nat)) : Int)).toNat : Nat) : Int) = ((putE e acc : Nat) : Int) := by
        unfold putE
        exact or_nat (by omega) (by split <;> omega)
      obtain ⟨c, g, h, st', acc', m, hS2, hI2⟩ := last_both N (R := R) (bad := bad) (b := b) (z := z) (good_size p5 (setWord_size hpa ((putE e acc : Nat) : Int))) hr (show frame * 256 + va % 256 < 262144 by omega) ha (show 0 ≤ st + m0 by omega) (show st + m0 ≤ 1000 by omega)
      refine ⟨c, g, h, st', acc', m, fun k => ?_, fun k => ?_⟩
      · unfold specFin
        rw [oK_some_eq, decide_eq_false (show ¬ (frame : Int) ≥ 1024 by omega), cond_false, putE_spec he acc, oK_some_eq, acc_need e he acc, hne, cond_true, hS _ _ _ h0 (by omega), decide_eq_false (show ¬ (pa : Int) < 0 by omega), cond_false, spec_SetWord_eq N hpa p5.le, g1]
        exact hS2 k
      · unfold implFin
        rw [oK_some_eq, decide_eq_false (show ¬ (frame : Int) ≥ 1024 by omega), cond_false, impl_yputs_eq, hne, cond_true, hI _ _ _ _ _ _ _ h0 (by omega), Bool.not_true, cond_false, hor, impl_yputWord_eq N hpa (by have := p5.le; omega), g2]
        exact hI2 k

theorem spec_two_test (a b c d e f g h : Bool) (K : Bool → Option R) : (oK (cond ((cond a (0 : Int) 1) != 0) (some true) (cond b (some true) (cond c (some true) (cond d (some true) (cond e (some true) (cond f (some true) (cond g (some true) (some (!h)))))))))  K) = K (!a || (b || (c || (d || (e || (f || (g || !h))))))) := by
  cases a <;> cases b <;> cases c <;> cases d <;> cases e <;> cases f <;> cases g <;> rfl

def accOk (acc : Int) : Bool := acc == 1 || (acc == 2 || acc == 3)

theorem spec_l03Acc_all (acc : Int) (k : Bool → Option R) : g_spec_l03Acc N acc k = k (accOk acc) := by
  unfold g_spec_l03Acc accOk
  cases acc == 1 <;> cases acc == 2 <;> cases acc == 3 <;> rfl

def twoBad (s : ByteArray) (host root va acc : Int) : Bool := !memOk s || (!(decide (host ≥ 0) && decide (host ≤ 255)) || !(decide (root ≥ 0) && decide (root ≤ 255) && (decide (va ≥ 0) && decide (va ≤ 262143)) && accOk acc))

theorem twoBad_facts {s : ByteArray} {host root va acc : Int} (h : twoBad s host root va acc = false) : Good s ∧ ∃ ho ro v : Nat, host = (ho : Int) ∧ root = (ro : Int) ∧ va = (v : Int) ∧ ho ≤ 255 ∧ ro ≤ 255 ∧ v < 262144 ∧ (acc = 1 ∨ acc = 2 ∨ acc = 3) := by
  unfold twoBad at h
  simp only [Bool.or_eq_false_iff, Bool.not_eq_false', Bool.and_eq_true, decide_eq_true_eq] at h
  obtain ⟨h1, h2, ⟨h3, h4⟩, h5⟩ := h
  have hm := h1
  unfold memOk at hm
  simp only [Bool.and_eq_true, decide_eq_true_eq] at hm
  have h6 : Int.tmod (s.size : Int) 256 = 0 := by simpa using hm.2.2
  rw [tmod_nn (by omega)] at h6
  unfold accOk at h5
  simp only [Bool.or_eq_true, beq_iff_eq] at h5
  obtain ⟨ho, rfl⟩ := Int.eq_ofNat_of_zero_le h2.1
  obtain ⟨ro, rfl⟩ := Int.eq_ofNat_of_zero_le h3.1
  obtain ⟨v, rfl⟩ := Int.eq_ofNat_of_zero_le h4.1
  exact ⟨⟨h1, by omega, by omega⟩, ho, ro, v, rfl, rfl, rfl, by omega, by omega, by omega, h5⟩


theorem impl_walkOk_eq (root va acc : Int) (k : Bool → Option R) : g_impl_ywalkOk N root va acc k = k (decide (root ≥ 0) && decide (root ≤ 255) && (decide (va ≥ 0) && decide (va ≤ 262143)) && accOk acc) := by
  have h : (decide (acc ≥ 1) && decide (acc ≤ 3)) = accOk acc := by
    unfold accOk
    rw [Bool.eq_iff_iff]; simp; omega
  unfold g_impl_ywalkOk
  rw [impl_yin_eq, impl_yin_eq, impl_yin_eq, h]
  cases decide (root ≥ 0) && decide (root ≤ 255) <;> cases decide (va ≥ 0) && decide (va ≤ 262143) <;> rfl

theorem low_eq (e : Nat) : IntKind.wrap .i64 (((BitVec.ofInt 64 (e : Int) &&& BitVec.ofInt 64 255).toNat : Nat) : Int) = ((low8 (e : Int) : Nat) : Int) := by
  rw [and255]; unfold low8; omega

theorem mem_end (m : ByteArray) (X : ByteArray → Option R) : cond (Nat.ble (0 + (ofBytes m).length) (ofBytes m).length) (X (toBytes (seg (ofBytes m) 0 (ofBytes m).length))) none = X m := by
  rw [Nat.zero_add, ble_t (Nat.le_refl _), cond_true, toBytes_all]

theorem read2 {s : ByteArray} {host gpa : Nat} (hg : Good s) (hr : host ≤ 255) (hv : gpa < 262144) (h4 : gpa % 256 ≤ 252) :
    ∃ m : Int, 0 ≤ m ∧ m ≤ 2 ∧
      (((∀ (st n4 : Int) (k : Int → ByteArray → Int → Int → Option R), 0 ≤ st → st ≤ 1000 → g_spec_l03Two_place_W N gpa 1 s host st n4 k = k (-1) s (st + m) gpa) ∧
        (∀ (st n3 n4 n5 : Int) (b : Bool) (z : ByteArray) (k : Int → Bool → Int → Int → Int → List Int → Option R), 0 ≤ st → st ≤ 1000 → g_impl_WalkTwo_2_1_WWWWw N gpa n3 n4 n5 st z b host (ofBytes s) k = k 0 false 3 gpa (st + m) (ofBytes s))) ∨
      ∃ (pa e : Nat) (s1 : ByteArray), pa + 4 ≤ s1.size ∧ Good s1 ∧ e < 4294967296 ∧ wordAt s1 pa = (e : Int) ∧
        (∀ (st n4 : Int) (k : Int → ByteArray → Int → Int → Option R), 0 ≤ st → st ≤ 1000 → g_spec_l03Two_place_W N gpa 1 s host st n4 k = k (pa : Int) s1 (st + m) n4) ∧
        (∀ (st n3 n4 n5 : Int) (b : Bool) (z : ByteArray) (k : Int → Bool → Int → Int → Int → List Int → Option R), 0 ≤ st → st ≤ 1000 → g_impl_WalkTwo_2_1_WWWWw N gpa n3 n4 n5 st z b host (ofBytes s) k = k (e : Int) true n3 n4 (st + m + 1) (ofBytes s1))) := by
  obtain ⟨m, hm0, hm1, hp⟩ := place2 N (R := R) hg hr hv (acc := 1) (.inl rfl)
  refine ⟨m, hm0, hm1, ?_⟩
  rcases hp with ⟨hS, hI⟩ | ⟨pa, s1, p1, p2, p3, p4, p5, hS, hI⟩
  · refine .inl ⟨hS, fun st n3 n4 n5 b z k h0 h1 => ?_⟩
    unfold g_impl_WalkTwo_2_1_WWWWw
    rw [hI _ _ _ _ _ _ _ h0 h1]; rfl
  · have hpa : pa + 4 ≤ s1.size := by have := p5.fr; omega
    refine .inr ⟨pa, wordN s1 pa, s1, hpa, p5, wordN_lt s1 pa, wordN_cast s1 pa, hS, fun st n3 n4 n5 b z k h0 h1 => ?_⟩
    unfold g_impl_WalkTwo_2_1_WWWWw
    rw [hI _ _ _ _ _ _ _ h0 h1, Bool.not_true, cond_false, impl_ygetWord_eq N hpa (by have := p5.le; omega), wordN_cast, w64 (n := st + m + 1) (by omega) (by omega)]

theorem WalkTwo_both {s : ByteArray} {host root va acc : Int} {u : Bool} : ∃ (c g h st : Int) (m : ByteArray), (∀ k : Int → Int → Int → Int → ByteArray → Option R, g_impl_WalkTwo N s host root va acc u k = k c g h st m) ∧ ∀ k : Int → Int → Int → Int → ByteArray → Option R, g_spec_WalkTwo N s host root va acc u k = k c g h st m := by
  have hIT : ∀ k : Int → Int → Int → Int → ByteArray → Option R, g_impl_WalkTwo N s host root va acc u k = cond (twoBad s host root va acc) (k 0 0 0 0 ⟨[].toArray⟩) (g_impl_WalkTwo_2_WWWWWWWWw N 0 0 0 0 ⟨[].toArray⟩ false root va acc u host (ofBytes s) fun n4 n5 n6 n7 n8 l => cond (Nat.ble (0 + l.length) l.length) (k n4 n5 n6 n7 (toBytes (seg l 0 l.length))) none) := fun k => by
    unfold g_impl_WalkTwo twoBad
    rw [impl_ymemOk_eq, impl_yin_eq, impl_walkOk_eq]
    have ht : ∀ (a b c : Bool) (K : Bool → Option R), (oK (cond (!a) (some true) (cond (!b) (some true) (some (!c)))) K) = K (!a || (!b || !c)) := fun a b c K => by cases a <;> cases b <;> rfl
    rw [ht]
  have hb : (!memOk s || (decide (host < 0) || (decide (host > 255) || (decide (root < 0) || (decide (root > 255) || (decide (va < 0) || (decide (va ≥ 262144) || !accOk acc))))))) = twoBad s host root va acc := by
    unfold twoBad
    have a1 : decide (host < 0) = !decide (host ≥ 0) := by rw [← decide_not]; exact decide_eq_decide.2 (by omega)
    have a2 : decide (host > 255) = !decide (host ≤ 255) := by rw [← decide_not]; exact decide_eq_decide.2 (by omega)
    have a3 : decide (root < 0) = !decide (root ≥ 0) := by rw [← decide_not]; exact decide_eq_decide.2 (by omega)
    have a4 : decide (root > 255) = !decide (root ≤ 255) := by rw [← decide_not]; exact decide_eq_decide.2 (by omega)
    have a5 : decide (va < 0) = !decide (va ≥ 0) := by rw [← decide_not]; exact decide_eq_decide.2 (by omega)
    have a6 : decide (va ≥ 262144) = !decide (va ≤ 262143) := by rw [← decide_not]; exact decide_eq_decide.2 (by omega)
    rw [a1, a2, a3, a4, a5, a6]
    cases memOk s <;> cases decide (host ≥ 0) <;> cases decide (host ≤ 255) <;> cases decide (root ≥ 0) <;> cases decide (root ≤ 255) <;> cases decide (va ≥ 0) <;> cases decide (va ≤ 262143) <;> rfl
  cases h1 : twoBad s host root va acc with
  | true =>
    refine ⟨0, 0, 0, 0, ⟨[].toArray⟩, fun k => by rw [hIT, h1, cond_true], fun k => ?_⟩
    unfold g_spec_WalkTwo
    rw [spec_MemFault_eq, spec_l03Acc_all, spec_two_test, hb, h1, cond_true]
  | false =>
    obtain ⟨hg, ho, ro, v, rfl, rfl, rfl, q1, q2, q3, ha⟩ := twoBad_facts h1
    have f256 : ∀ n : Int, Int.fdiv n 256 = n / 256 := fun n => fdiv_lit n (by omega)
    have f8192 : ∀ n : Int, Int.fdiv n 8192 = n / 8192 := fun n => fdiv_lit n (by omega)
    have eI : IntKind.wrap .i64 (IntKind.wrap .i64 ((ro : Int) * 256) + IntKind.wrap .i64 (4 * ((v : Int) / 8192 % 32))) = ((ro * 256 + 4 * (v / 8192) : Nat) : Int) := by
      rw [w64 (n := (ro : Int) * 256) (by omega) (by omega), w64 (n := 4 * ((v : Int) / 8192 % 32)) (by omega) (by omega), w64 (by omega) (by omega)]; omega
    have eS : IntKind.wrap .i64 (IntKind.wrap .i64 ((ro : Int) * 256) + IntKind.wrap .i64 (4 * ((v : Int) / 8192))) = ((ro * 256 + 4 * (v / 8192) : Nat) : Int) := by
      rw [w64 (n := (ro : Int) * 256) (by omega) (by omega), w64 (n := 4 * ((v : Int) / 8192)) (by omega) (by omega), w64 (by omega) (by omega)]; omega
    obtain ⟨at1, hat1⟩ : ∃ at1, ro * 256 + 4 * (v / 8192) = at1 := ⟨_, rfl⟩
    have hat2 : at1 < 262144 ∧ at1 % 4 = 0 ∧ at1 % 256 ≤ 252 := by omega
    rw [hat1] at eI eS
    obtain ⟨m, hm0, hm1, hp⟩ := read2 N (R := R) hg q1 hat2.1 hat2.2.2
    rcases hp with ⟨hS, hI⟩ | ⟨pa, e, s1, hpa, p5, hlt, hwc, hS, hI⟩
    · refine ⟨3, at1, 0, 0 + m, s, fun k => ?_, fun k => ?_⟩
      · rw [hIT, h1, cond_false]
        unfold g_impl_WalkTwo_2_WWWWWWWWw
        rw [f8192, and31, eI, hI _ _ _ _ _ _ _ (by omega) (by omega)]
        exact mem_end s (fun z => k 3 at1 0 (0 + m) z)
      · unfold g_spec_WalkTwo
        rw [spec_MemFault_eq, spec_l03Acc_all, spec_two_test, hb, h1, cond_false, f8192, eS, hS _ _ _ (by omega) (by omega)]
        rfl
    have ed : (e : Int) / 256 = ((e / 256 : Nat) : Int) := by omega
    have st1 : IntKind.wrap .i64 (0 + m + 1) = 0 + m + 1 := w64 (by omega) (by omega)
    cases hld : leadsOn e with
    | true =>
      by_cases hbig : e / 256 ≥ 1024
      · refine ⟨2, 0, 0, 0 + m + 1, s1, fun k => ?_, fun k => ?_⟩
        · rw [hIT, h1, cond_false]
          unfold g_impl_WalkTwo_2_WWWWWWWWw
          rw [f8192, and31, eI, hI _ _ _ _ _ _ _ (by omega) (by omega), Bool.not_true, cond_false, leads_eq, oK_some_eq, hld, cond_true, f256, ed, decide_eq_true (show ((e / 256 : Nat) : Int) ≥ 1024 by omega), cond_true]
          exact mem_end s1 (fun z => k 2 0 0 (0 + m + 1) z)
        · unfold g_spec_WalkTwo
          rw [spec_MemFault_eq, spec_l03Acc_all, spec_two_test, hb, h1, cond_false, f8192, eS, hS _ _ _ (by omega) (by omega), decide_eq_false (show ¬ (pa : Int) < 0 by omega), cond_false, spec_l01Word_eq N hpa (by have := p5.le; omega), hwc, leads_eq, oK_some_eq, hld, cond_true, f256, ed, decide_eq_true (show ((e / 256 : Nat) : Int) ≥ 1024 by omega), cond_true, st1]
          rfl
      have eI2 : IntKind.wrap .i64 (IntKind.wrap .i64 (((e / 256 : Nat) : Int) * 256) + IntKind.wrap .i64 (4 * ((v : Int) / 256 % 32))) = ((e / 256 * 256 + 4 * (v / 256 % 32) : Nat) : Int) := by
        rw [w64 (n := ((e / 256 : Nat) : Int) * 256) (by omega) (by omega), w64 (n := 4 * ((v : Int) / 256 % 32)) (by omega) (by omega), w64 (by omega) (by omega)]; omega
      obtain ⟨at2, hat3⟩ : ∃ at2, e / 256 * 256 + 4 * (v / 256 % 32) = at2 := ⟨_, rfl⟩
      have hat4 : at2 < 262144 ∧ at2 % 4 = 0 ∧ at2 % 256 ≤ 252 := by omega
      rw [hat3] at eI2
      have t32 : Int.tmod ((v : Int) / 256) 32 = (v : Int) / 256 % 32 := tmod_nn (by omega)
      obtain ⟨m2, hm2, hm3, hp2⟩ := read2 N (R := R) p5 q1 hat4.1 hat4.2.2
      rcases hp2 with ⟨hS2, hI2⟩ | ⟨pa2, e2, s2, hpa2, r5, hlt2, hwc2, hS2, hI2⟩
      · refine ⟨3, at2, 0, 0 + m + 1 + m2, s1, fun k => ?_, fun k => ?_⟩
        · rw [hIT, h1, cond_false]
          unfold g_impl_WalkTwo_2_WWWWWWWWw
          rw [f8192, and31, eI, hI _ _ _ _ _ _ _ (by omega) (by omega), Bool.not_true, cond_false, leads_eq, oK_some_eq, hld, cond_true, f256, ed, decide_eq_false (show ¬ ((e / 256 : Nat) : Int) ≥ 1024 by omega), cond_false, f256, and31, eI2, hI2 _ _ _ _ _ _ _ (by omega) (by omega)]
          exact mem_end s1 (fun z => k 3 at2 0 (0 + m + 1 + m2) z)
        · unfold g_spec_WalkTwo
          rw [spec_MemFault_eq, spec_l03Acc_all, spec_two_test, hb, h1, cond_false, f8192, eS, hS _ _ _ (by omega) (by omega), decide_eq_false (show ¬ (pa : Int) < 0 by omega), cond_false, spec_l01Word_eq N hpa (by have := p5.le; omega), hwc, leads_eq, oK_some_eq, hld, cond_true, f256, ed, decide_eq_false (show ¬ ((e / 256 : Nat) : Int) ≥ 1024 by omega), cond_false, st1, f256, t32, eI2, hS2 _ _ _ (by omega) (by omega)]
          rfl
      have ed2 : (e2 : Int) / 256 = ((e2 / 256 : Nat) : Int) := by omega
      have st2 : IntKind.wrap .i64 (0 + m + 1 + m2 + 1) = 0 + m + 1 + m2 + 1 := w64 (by omega) (by omega)
      cases hle : letsB (low8 e2) acc u with
      | false =>
        refine ⟨1, 0, 0, 0 + m + 1 + m2 + 1, s2, fun k => ?_, fun k => ?_⟩
        · rw [hIT, h1, cond_false]
          unfold g_impl_WalkTwo_2_WWWWWWWWw
          rw [f8192, and31, eI, hI _ _ _ _ _ _ _ (by omega) (by omega), Bool.not_true, cond_false, leads_eq, oK_some_eq, hld, cond_true, f256, ed, decide_eq_false (show ¬ ((e / 256 : Nat) : Int) ≥ 1024 by omega), cond_false, f256, and31, eI2, hI2 _ _ _ _ _ _ _ (by omega) (by omega), Bool.not_true, cond_false, low_eq, impl_ylets_eq N _ acc ha, hle, Bool.not_false, oK_some_eq, cond_true]
          exact mem_end s2 (fun z => k 1 0 0 (0 + m + 1 + m2 + 1) z)
        · unfold g_spec_WalkTwo
          rw [spec_MemFault_eq, spec_l03Acc_all, spec_two_test, hb, h1, cond_false, f8192, eS, hS _ _ _ (by omega) (by omega), decide_eq_false (show ¬ (pa : Int) < 0 by omega), cond_false, spec_l01Word_eq N hpa (by have := p5.le; omega), hwc, leads_eq, oK_some_eq, hld, cond_true, f256, ed, decide_eq_false (show ¬ ((e / 256 : Nat) : Int) ≥ 1024 by omega), cond_false, st1, f256, t32, eI2, hS2 _ _ _ (by omega) (by omega), decide_eq_false (show ¬ (pa2 : Int) < 0 by omega), cond_false, spec_l01Word_eq N hpa2 (by have := r5.le; omega), hwc2, may_eq, hle, Bool.not_false, oK_some_eq, cond_true, st2]
          rfl
      | true =>
        obtain ⟨c, g, h, st', acc', mm, hSf, hIf⟩ := fin_both N (R := R) (s := s2) (host := ho) (va := v) (e := e2) (gp := at2) (frame := e2 / 256) (acc := acc) (st := 0 + m + 1 + m2 + 1) (bad := 0) (b := false) (z := ⟨[].toArray⟩) r5 q1 q3 hlt2 hat4.1 hat4.2.1 (by omega) ha (by omega) (by omega)
        refine ⟨c, g, h, st', mm, fun k => ?_, fun k => ?_⟩
        · rw [hIT, h1, cond_false]
          unfold g_impl_WalkTwo_2_WWWWWWWWw
          rw [f8192, and31, eI, hI _ _ _ _ _ _ _ (by omega) (by omega), Bool.not_true, cond_false, leads_eq, oK_some_eq, hld, cond_true, f256, ed, decide_eq_false (show ¬ ((e / 256 : Nat) : Int) ≥ 1024 by omega), cond_false, f256, and31, eI2, hI2 _ _ _ _ _ _ _ (by omega) (by omega), Bool.not_true, cond_false, low_eq, impl_ylets_eq N _ acc ha, hle, Bool.not_true, oK_some_eq, cond_false, f256, ed2]
          refine Eq.trans (hIf (fun n4 n5 n6 n7 n8 l => cond (Nat.ble (0 + l.length) l.length) (k n4 n5 n6 n7 (toBytes (seg l 0 l.length))) none)) ?_
          exact mem_end mm (fun z => k c g h st' z)
        · unfold g_spec_WalkTwo
          rw [spec_MemFault_eq, spec_l03Acc_all, spec_two_test, hb, h1, cond_false, f8192, eS, hS _ _ _ (by omega) (by omega), decide_eq_false (show ¬ (pa : Int) < 0 by omega), cond_false, spec_l01Word_eq N hpa (by have := p5.le; omega), hwc, leads_eq, oK_some_eq, hld, cond_true, f256, ed, decide_eq_false (show ¬ ((e / 256 : Nat) : Int) ≥ 1024 by omega), cond_false, st1, f256, t32, eI2, hS2 _ _ _ (by omega) (by omega), decide_eq_false (show ¬ (pa2 : Int) < 0 by omega), cond_false, spec_l01Word_eq N hpa2 (by have := r5.le; omega), hwc2, may_eq, hle, Bool.not_true, oK_some_eq, cond_false, st2, f256, ed2]
          exact hSf k
    | false =>
      have t32 : Int.tmod ((v : Int) / 256) 32 = (v : Int) / 256 % 32 := tmod_nn (by omega)
      have eF : IntKind.wrap .i64 (((e / 256 : Nat) : Int) + (v : Int) / 256 % 32) = ((e / 256 + v / 256 % 32 : Nat) : Int) := by rw [w64 (by omega) (by omega)]; omega
      have hor : ∀ (C L : Bool) (K : Bool → Option R), oK (cond C (some true) (some (!L))) K = K (C || !L) := fun C L K => by cases C <;> rfl
      cases hle : ((Int.tmod ((e / 256 : Nat) : Int) 32 != 0) || !letsB (low8 e) acc u) with
      | true =>
        refine ⟨1, 0, 0, 0 + m + 1, s1, fun k => ?_, fun k => ?_⟩
        · rw [hIT, h1, cond_false]
          unfold g_impl_WalkTwo_2_WWWWWWWWw
          rw [f8192, and31, eI, hI _ _ _ _ _ _ _ (by omega) (by omega), Bool.not_true, cond_false, leads_eq, oK_some_eq, hld, cond_false, f256, ed, low_eq, impl_ylets_eq N _ acc ha, hor, hle, cond_true]
          exact mem_end s1 (fun z => k 1 0 0 (0 + m + 1) z)
        · unfold g_spec_WalkTwo
          rw [spec_MemFault_eq, spec_l03Acc_all, spec_two_test, hb, h1, cond_false, f8192, eS, hS _ _ _ (by omega) (by omega), decide_eq_false (show ¬ (pa : Int) < 0 by omega), cond_false, spec_l01Word_eq N hpa (by have := p5.le; omega), hwc, leads_eq, oK_some_eq, hld, cond_false, f256, ed, may_eq32, oK_some_eq, hle, cond_true, st1]
          rfl
      | false =>
        obtain ⟨c, g, h, st', acc', mm, hSf, hIf⟩ := fin_both N (R := R) (s := s1) (host := ho) (va := v) (e := e) (gp := at1) (frame := e / 256 + v / 256 % 32) (acc := acc) (st := 0 + m + 1) (bad := 0) (b := false) (z := ⟨[].toArray⟩) p5 q1 q3 hlt hat2.1 hat2.2.1 (by omega) ha (by omega) (by omega)
        refine ⟨c, g, h, st', mm, fun k => ?_, fun k => ?_⟩
        · rw [hIT, h1, cond_false]
          unfold g_impl_WalkTwo_2_WWWWWWWWw
          rw [f8192, and31, eI, hI _ _ _ _ _ _ _ (by omega) (by omega), Bool.not_true, cond_false, leads_eq, oK_some_eq, hld, cond_false, f256, ed, low_eq, impl_ylets_eq N _ acc ha, hor, hle, cond_false, f256, and31, eF]
          refine Eq.trans (hIf (fun n4 n5 n6 n7 n8 l => cond (Nat.ble (0 + l.length) l.length) (k n4 n5 n6 n7 (toBytes (seg l 0 l.length))) none)) ?_
          exact mem_end mm (fun z => k c g h st' z)
        · unfold g_spec_WalkTwo
          rw [spec_MemFault_eq, spec_l03Acc_all, spec_two_test, hb, h1, cond_false, f8192, eS, hS _ _ _ (by omega) (by omega), decide_eq_false (show ¬ (pa : Int) < 0 by omega), cond_false, spec_l01Word_eq N hpa (by have := p5.le; omega), hwc, leads_eq, oK_some_eq, hld, cond_false, f256, ed, may_eq32, oK_some_eq, hle, cond_false, st1, f256, t32, eF]
          exact hSf k

theorem law_WalkTwo {s : ByteArray} {n n1 n2 n3 : Int} {b : Bool} (k : Bool → Option R) : g_laws_FnExactWalkTwo N s n n1 n2 n3 b k = k true := by
  obtain ⟨c, g, h, st, m, hI, hS⟩ := WalkTwo_both N (R := R) (s := s) (host := n) (root := n1) (va := n2) (acc := n3) (u := b)
  unfold g_laws_FnExactWalkTwo g_laws_eqTwoWalked
  rw [hS, hI]
  simp -implicitDefEqProofs only [bne_self_eq_false, decide_true, Bool.not_true, cond_false]
  cases decide ((s.size : Int) > 1048576) <;> rfl

end
end Go.Sa
