import Derived.Test.YtnopbegjbbbdhaaW1
set_option linter.all false
namespace Go.Sa
open Go Go.Eng
section
variable {R : Type} (N : Nat)
variable {R : Type}

@[simp] theorem impl_yin_eq (a lo hi : Int) (k : Bool → Option R) : g_impl_yin N a lo hi k = k (decide (a ≥ lo) && decide (a ≤ hi)) := by
  simp [g_impl_yin]

def word (n : Int) : Int := n % 4294967296

def putWord (n : Int) : ByteArray := toBytes [word n % 256, word n / 256 % 256, word n / 65536 % 256, word n / 16777216 % 256]

theorem putWord_size (n : Int) : (putWord n).size = 4 := toBytes_size _

theorem spec_l01Mod_eq {n m : Int} (hm : 0 < m) (hm2 : m ≤ 2 ^ 62) (k : Int → Option R) : g_spec_l01Mod N n m k = k (n % m) := by
  unfold g_spec_l01Mod
  obtain ⟨h1, h2⟩ := tmod_bound (n := n) hm
  rw [show (m == 0) = false by rw [beq_dec]; exact decide_eq_false (by omega), ← tmod_add (n := n) hm]
  by_cases h : n.tmod m < 0
  · rw [decide_eq_true h, if_pos h, w64 (by omega) (by omega)]; rfl
  · rw [decide_eq_false h, if_neg h]; rfl

theorem spec_Word_eq (n : Int) (k : Int → Option R) : g_spec_Word N n k = k (word n) := by
  unfold g_spec_Word
  rw [spec_l01Mod_eq N (by omega) (by omega)]
  rfl

theorem spec_PutWord_eq (n : Int) (k : ByteArray → Option R) : g_spec_PutWord N n k = k (putWord n) := by
  simp only [g_spec_PutWord, spec_Word_eq, Go.Eng.wu8, fdiv_lit _ (show (0 : Int) ≤ 256 by omega), fdiv_lit _ (show (0 : Int) ≤ 65536 by omega), fdiv_lit _ (show (0 : Int) ≤ 16777216 by omega), seg_all]
  rfl


def wordAt (s : ByteArray) (i : Nat) : Int := bt s i + bt s (i + 1) * 256 + bt s (i + 2) * 65536 + bt s (i + 3) * 16777216

theorem wordAt_bound (s : ByteArray) (i : Nat) : 0 ≤ wordAt s i ∧ wordAt s i < 4294967296 := by
  have h0 := bt_bound s i
  have h1 := bt_bound s (i + 1)
  have h2 := bt_bound s (i + 2)
  have h3 := bt_bound s (i + 3)
  unfold wordAt
  omega

theorem spec_l01Word_eq {s : ByteArray} {i : Nat} (h : i + 4 ≤ s.size) (hs : s.size ≤ 2 ^ 60) (k : Int → Option R) : g_spec_l01Word N s (i : Int) k = k (wordAt s i) := by
  have h0 := bt_bound s i
  have h1 := bt_bound s (i + 1)
  have h2 := bt_bound s (i + 2)
  have h3 := bt_bound s (i + 3)
  have e1 : IntKind.wrap .i64 ((i : Int) + 1) = ((i + 1 : Nat) : Int) := by rw [w64 (by omega) (by omega)]; omega
  have e2 : IntKind.wrap .i64 ((i : Int) + 2) = ((i + 2 : Nat) : Int) := by rw [w64 (by omega) (by omega)]; omega
  have e3 : IntKind.wrap .i64 ((i : Int) + 3) = ((i + 3 : Nat) : Int) := by rw [w64 (by omega) (by omega)]; omega
  simp only [g_spec_l01Word, e1, e2, e3, dec_nn, dec_lt (show i < s.size by omega), dec_lt (show i + 1 < s.size by omega), dec_lt (show i + 2 < s.size by omega), dec_lt (show i + 3 < s.size by omega), Bool.and_true, cond_true, Int.toNat_natCast]
  rw [w64 (n := bt s i) (by omega) (by omega), w64 (n := bt s (i + 1)) (by omega) (by omega), w64 (n := bt s (i + 2)) (by omega) (by omega), w64 (n := bt s (i + 3)) (by omega) (by omega), w64 (n := bt s (i + 1) * 256) (by omega) (by omega), w64 (n := bt s (i + 2) * 65536) (by omega) (by omega), w64 (n := bt s (i + 3) * 16777216) (by omega) (by omega), w64 (n := bt s i + bt s (i + 1) * 256) (by omega) (by omega), w64 (n := bt s i + bt s (i + 1) * 256 + bt s (i + 2) * 65536) (by omega) (by omega), w64 (n := bt s i + bt s (i + 1) * 256 + bt s (i + 2) * 65536 + bt s (i + 3) * 16777216) (by omega) (by omega)]
  rfl

theorem or_word (a b c d : Int) (ha : 0 ≤ a ∧ a ≤ 255) (hb : 0 ≤ b ∧ b ≤ 255) (hc : 0 ≤ c ∧ c ≤ 255) (hd : 0 ≤ d ∧ d ≤ 255) :
    IntKind.wrap .i64 (((BitVec.ofInt 64 (IntKind.wrap .i64 (((BitVec.ofInt 64 (IntKind.wrap .i64 (((BitVec.ofInt 64 a ||| BitVec.ofInt 64 (b * 256)).toNat : Nat) : Int)) ||| BitVec.ofInt 64 (c * 65536)).toNat : Nat) : Int)) ||| BitVec.ofInt 64 (d * 16777216)).toNat : Nat) : Int) = a + b * 256 + c * 65536 + d * 16777216 := by
  have com : ∀ x y : Int, (BitVec.ofInt 64 x ||| BitVec.ofInt 64 y) = (BitVec.ofInt 64 y ||| BitVec.ofInt 64 x) := fun x y => BitVec.or_comm _ _
  have h1 := or_add (a := b * 256) (b := a) 8 (by omega) (by omega) (by omega) (by omega) (by omega)
  have h2 := or_add (a := c * 65536) (b := b * 256 + a) 16 (by omega) (by omega) (by omega) (by omega) (by omega)
  have h3 := or_add (a := d * 16777216) (b := c * 65536 + (b * 256 + a)) 24 (by omega) (by omega) (by omega) (by omega) (by omega)
  rw [com a, h1, com (b * 256 + a), h2, com (c * 65536 + (b * 256 + a)), h3]
  omega

def memOk (s : ByteArray) : Bool := decide ((s.size : Int) ≥ 256) && (decide ((s.size : Int) ≤ 65536) && (Int.tmod (s.size : Int) 256 == 0))

theorem impl_ymemOk_eq (s : ByteArray) (k : Bool → Option R) : g_impl_ymemOk N s k = k (memOk s) := by
  unfold g_impl_ymemOk memOk
  cases decide ((s.size : Int) ≥ 256) <;> cases decide ((s.size : Int) ≤ 65536) <;> rfl

theorem spec_MemFault_eq (s : ByteArray) (k : Int → Option R) : g_spec_MemFault N s k = k (cond (memOk s) 0 1) := by
  have e : ((s.size : Int) == 0 || (Int.tmod (s.size : Int) 256 != 0 || decide ((s.size : Int) > 65536))) = !memOk s := by
    unfold memOk
    rw [Int.tmod_eq_emod_of_nonneg (by omega), Bool.eq_iff_iff]
    have h0 : (0 : Int) ≤ (s.size : Int) := by omega
    generalize (s.size : Int) = m at h0 ⊢
    simp
    omega
  unfold g_spec_MemFault
  simp only [cond_somes, oK_some_eq, Bool.cond_true_left, e]
  cases memOk s <;> rfl

def splice (s : ByteArray) (a : Nat) (t : ByteArray) : ByteArray := (s.extract 0 a ++ t) ++ s.extract (a + t.size) s.size

theorem ofBytes_length (s : ByteArray) : (ofBytes s).length = s.size := by
  unfold ofBytes
  rw [List.length_map, Array.length_toList]
  rfl

theorem nth_ofBytes {s : ByteArray} {i : Nat} (h : i < s.size) : nth (ofBytes s) i = some (bt s i) := by
  have h' : i < s.data.toList.length := by rw [Array.length_toList]; exact h
  unfold ofBytes bt
  rw [nth_eq, List.getElem?_map, List.getElem?_eq_getElem h', List.getD_eq_getElem?_getD, List.getElem?_eq_getElem h']
  rfl

theorem toBytes_ofBytes (s : ByteArray) : toBytes (ofBytes s) = s := by
  obtain ⟨⟨l⟩⟩ := s
  unfold toBytes ofBytes
  simp only [List.map_map]
  have : (l.map ((fun x : Int => UInt8.ofNat x.toNat) ∘ fun c : UInt8 => (c.toNat : Int))) = l := by
    rw [List.map_congr_left (g := id) (fun c _ => by simp), List.map_id]
  rw [this]

theorem ofBytes_append (s t : ByteArray) : ofBytes (s ++ t) = ofBytes s ++ ofBytes t := by
  obtain ⟨⟨a⟩⟩ := s
  obtain ⟨⟨b⟩⟩ := t
  have e : (⟨⟨a⟩⟩ ++ ⟨⟨b⟩⟩ : ByteArray).data = (⟨a⟩ ++ ⟨b⟩ : Array UInt8) := ByteArray.data_append
  unfold ofBytes
  rw [e]
  simp

theorem ofBytes_extract (s : ByteArray) (i j : Nat) : ofBytes (s.extract i j) = ((ofBytes s).take j).drop i := by
  unfold ofBytes
  rw [ByteArray.data_extract, Array.toList_extract, List.extract_eq_drop_take, ← List.map_take, ← List.map_drop, List.drop_take]

theorem ofBytes_toBytes {l : List Int} (h : ∀ x ∈ l, 0 ≤ x ∧ x < 256) : ofBytes (toBytes l) = l := by
  unfold ofBytes toBytes
  simp only [List.map_map]
  rw [List.map_congr_left (g := id) (fun x hx => ?_), List.map_id]
  have := h x hx
  simp
  omega

theorem ofBytes_putWord (v : Int) : ofBytes (putWord v) = [v % 256, v / 256 % 256, v / 65536 % 256, v / 16777216 % 256] := by
  unfold putWord
  rw [ofBytes_toBytes (by intro x hx; simp only [List.mem_cons, List.not_mem_nil, or_false] at hx; omega)]
  unfold word
  simp only [List.cons.injEq, and_true]
  omega

def setWord (s : ByteArray) (i : Nat) (v : Int) : ByteArray := (s.extract 0 i ++ putWord v) ++ s.extract (i + 4) s.size

theorem ofBytes_setWord {s : ByteArray} {i : Nat} (h : i + 4 ≤ s.size) (v : Int) :
    nset (nset (nset (nset (ofBytes s) i (v % 256)) (i + 1) (v / 256 % 256)) (i + 2) (v / 65536 % 256)) (i + 3) (v / 16777216 % 256) = ofBytes (setWord s i v) := by
  have hl := ofBytes_length s
  unfold setWord
  rw [ofBytes_append, ofBytes_append, ofBytes_extract, ofBytes_extract, ofBytes_putWord, ← hl]
  rw [← hl] at h
  generalize ofBytes s = l at h ⊢
  simp only [List.drop_zero, List.take_length]
  apply List.ext_getElem?
  intro j
  rw [← nth_eq]
  simp only [nth_nset, nset_length]
  rw [List.append_assoc, List.getElem?_append, List.getElem?_append]
  simp only [List.length_take, List.length_cons, List.length_nil, Nat.min_eq_left (show i ≤ l.length by omega)]
  by_cases h0 : j < i
  · rw [if_neg (by omega), if_neg (by omega), if_neg (by omega), if_neg (by omega), if_pos h0, List.getElem?_take_of_lt h0, nth_eq]
  · rw [if_neg h0]
    by_cases h4 : j - i < 0 + 1 + 1 + 1 + 1
    · rw [if_pos h4]
      obtain ⟨d, rfl⟩ : ∃ d, j = i + d := ⟨j - i, by omega⟩
      rw [show i + d - i = d by omega] at h4 ⊢
      match d, h4 with
      | 0, _ => rw [if_neg (by omega), if_neg (by omega), if_neg (by omega), if_pos (by omega)]; rfl
      | 1, _ => rw [if_neg (by omega), if_neg (by omega), if_pos (by omega)]; rfl
      | 2, _ => rw [if_neg (by omega), if_pos (by omega)]; rfl
      | 3, _ => rw [if_pos (by omega)]; rfl
    · rw [if_neg h4, if_neg (by omega), if_neg (by omega), if_neg (by omega), if_neg (by omega), List.getElem?_drop, nth_eq]
      congr 1
      omega

theorem setWord_size {s : ByteArray} {i : Nat} (h : i + 4 ≤ s.size) (v : Int) : (setWord s i v).size = s.size := by
  unfold setWord
  rw [ByteArray.size_append, ByteArray.size_append, ByteArray.size_extract, ByteArray.size_extract, putWord_size]
  omega


theorem impl_ygetWord_eq {s : ByteArray} {i : Nat} {b : Bool} (h : i + 4 ≤ s.size) (hs : s.size ≤ 2 ^ 60) (k : Int → Option R) : g_impl_ygetWord_w N b (i : Int) (ofBytes s) k = k (wordAt s i) := by
  have h0 := bt_bound s i
  have h1 := bt_bound s (i + 1)
  have h2 := bt_bound s (i + 2)
  have h3 := bt_bound s (i + 3)
  have e1 : IntKind.wrap .i64 ((i : Int) + 1) = ((i + 1 : Nat) : Int) := by rw [w64 (by omega) (by omega)]; omega
  have e2 : IntKind.wrap .i64 ((i : Int) + 2) = ((i + 2 : Nat) : Int) := by rw [w64 (by omega) (by omega)]; omega
  have e3 : IntKind.wrap .i64 ((i : Int) + 3) = ((i + 3 : Nat) : Int) := by rw [w64 (by omega) (by omega)]; omega
  simp only [g_impl_ygetWord_w, e1, e2, e3, dec_nn, ofBytes_length, dec_lt (show i < s.size by omega), dec_lt (show i + 1 < s.size by omega), dec_lt (show i + 2 < s.size by omega), dec_lt (show i + 3 < s.size by omega), Bool.and_true, cond_true, Int.toNat_natCast,
    elemK_some (nth_ofBytes (show i < s.size by omega)), elemK_some (nth_ofBytes (show i + 1 < s.size by omega)), elemK_some (nth_ofBytes (show i + 2 < s.size by omega)), elemK_some (nth_ofBytes (show i + 3 < s.size by omega))]
  rw [w64 (n := bt s i) (by omega) (by omega), w64 (n := bt s (i + 1)) (by omega) (by omega), w64 (n := bt s (i + 2)) (by omega) (by omega), w64 (n := bt s (i + 3)) (by omega) (by omega), w64 (n := bt s (i + 1) * 256) (by omega) (by omega), w64 (n := bt s (i + 2) * 65536) (by omega) (by omega), w64 (n := bt s (i + 3) * 16777216) (by omega) (by omega), or_word _ _ _ _ h0 h1 h2 h3]
  rfl

theorem impl_yputWord_eq {s : ByteArray} {i : Nat} {v : Int} {b : Bool} (h : i + 4 ≤ s.size) (hs : s.size ≤ 2 ^ 60) (k : List Int → Option R) : g_impl_yputWord_w N b (i : Int) v (ofBytes s) k = k (ofBytes (setWord s i v)) := by
  have e1 : IntKind.wrap .i64 ((i : Int) + 1) = ((i + 1 : Nat) : Int) := by rw [w64 (by omega) (by omega)]; omega
  have e2 : IntKind.wrap .i64 ((i : Int) + 2) = ((i + 2 : Nat) : Int) := by rw [w64 (by omega) (by omega)]; omega
  have e3 : IntKind.wrap .i64 ((i : Int) + 3) = ((i + 3 : Nat) : Int) := by rw [w64 (by omega) (by omega)]; omega
  have hl := ofBytes_length s
  rw [← ofBytes_setWord h]
  generalize ofBytes s = l at hl ⊢
  obtain ⟨x0, hx0⟩ := nth_some (l := l) (n := i) (by omega)
  obtain ⟨x1, hx1⟩ := nth_some (l := nset l i (v % 256)) (n := i + 1) (by rw [nset_length]; omega)
  obtain ⟨x2, hx2⟩ := nth_some (l := nset (nset l i (v % 256)) (i + 1) (v / 256 % 256)) (n := i + 2) (by simp only [nset_length]; omega)
  obtain ⟨x3, hx3⟩ := nth_some (l := nset (nset (nset l i (v % 256)) (i + 1) (v / 256 % 256)) (i + 2) (v / 65536 % 256)) (n := i + 3) (by simp only [nset_length]; omega)
  simp only [g_impl_yputWord_w, e1, e2, e3, Go.Eng.wu8, fdiv_lit _ (show (0 : Int) ≤ 256 by omega), fdiv_lit _ (show (0 : Int) ≤ 65536 by omega), fdiv_lit _ (show (0 : Int) ≤ 16777216 by omega), dec_nn, nset_length, dec_lt (show i < l.length by omega), dec_lt (show i + 1 < l.length by omega), dec_lt (show i + 2 < l.length by omega), dec_lt (show i + 3 < l.length by omega), Bool.and_true, cond_true, Int.toNat_natCast,
    elemK_some hx0, elemK_some hx1, elemK_some hx2, elemK_some hx3, blt_t (show i < l.length by omega), blt_t (show i + 1 < l.length by omega), blt_t (show i + 2 < l.length by omega), blt_t (show i + 3 < l.length by omega)]

theorem spec_GetWord_eq {s : ByteArray} {i : Nat} (h : i + 4 ≤ s.size) (hs : s.size ≤ 65536) (k : Bool → Int → Option R) : g_spec_GetWord N s (i : Int) k = k true (wordAt s i) := by
  unfold g_spec_GetWord
  rw [w64 (n := (s.size : Int) - 4) (by omega) (by omega), decide_eq_false (show ¬ (s.size : Int) > 65536 by omega), decide_eq_false (show ¬ (i : Int) < 0 by omega), decide_eq_false (show ¬ (i : Int) > (s.size : Int) - 4 by omega)]
  simp only [cond_false, oK_some_eq]
  exact spec_l01Word_eq N h (by omega) _

theorem spec_SetWord_eq {s : ByteArray} {i : Nat} {v : Int} (h : i + 4 ≤ s.size) (hs : s.size ≤ 65536) (k : ByteArray → Option R) : g_spec_SetWord N s (i : Int) v k = k (setWord s i v) := by
  unfold g_spec_SetWord setWord
  have e1 : IntKind.wrap .i64 ((i : Int) + 4) = ((i + 4 : Nat) : Int) := by rw [w64 (by omega) (by omega)]; omega
  rw [spec_GetWord_eq N h hs]
  simp only [e1, dec_nn, Int.toNat_natCast, decide_eq_true (show ((i : Int) ≤ (s.size : Int)) by omega), decide_eq_true (show (((i + 4 : Nat) : Int) ≤ (s.size : Int)) by omega), Bool.and_true, Bool.not_true, cond_false, cond_true, Int.le_refl, decide_true, spec_PutWord_eq, putWord_size]
  rw [ble_t (by rw [ByteArray.size_extract]; omega), cond_true, ble_t (by rw [ByteArray.size_append, ByteArray.size_extract, ByteArray.size_extract, putWord_size]; omega), cond_true]


/-- The low eight bits. -/
def low8 (n : Int) : Nat := (n % 256).toNat

theorem low8_lt (n : Int) : low8 n < 256 := by unfold low8; omega

theorem and_low (n : Int) (c : Nat) (hc : c < 256) : IntKind.wrap .i64 (((BitVec.ofInt 64 n &&& BitVec.ofInt 64 (c : Int)).toNat : Nat) : Int) = ((low8 n &&& c : Nat) : Int) := by
  have h1 : (BitVec.ofInt 64 n).toNat = (n % 18446744073709551616).toNat := by rw [BitVec.toNat_ofInt]; rfl
  have h2 : (n % 18446744073709551616).toNat &&& c = low8 n &&& c := by
    have e : low8 n = (n % 18446744073709551616).toNat % 256 := by unfold low8; omega
    rw [e]
    generalize (n % 18446744073709551616).toNat = a
    apply Nat.eq_of_testBit_eq
    intro i
    rw [Nat.testBit_and, Nat.testBit_and, show (256 : Nat) = 2 ^ 8 from rfl, Nat.testBit_mod_two_pow]
    by_cases hi : i < 8
    · rw [decide_eq_true hi, Bool.true_and]
    · have : c.testBit i = false := Nat.testBit_lt_two_pow (Nat.lt_of_lt_of_le hc (by
        calc (256 : Nat) = 2 ^ 8 := rfl
          _ ≤ 2 ^ i := Nat.pow_le_pow_right (by omega) (by omega)))
      rw [this, Bool.and_false, Bool.and_false]
  rw [BitVec.toNat_and, h1, ofInt_nat (show c < 2 ^ 64 by omega), h2]
  have : low8 n &&& c ≤ c := Nat.and_le_right
  rw [w64 (by omega) (by omega)]

/-- Whether an entry lets this kind of access. -/
def letsB (e : Nat) (acc : Int) (user : Bool) : Bool :=
  !((e &&& 1) == 0) && (!((e &&& (if acc == 2 then 4 else if acc == 3 then 8 else 2)) == 0) && (if user then !((e &&& 16) == 0) else (acc != 3 || (e &&& 16) == 0)))

theorem spec_l03May_eq (n acc : Int) (user : Bool) (k : Bool → Option R) : g_spec_l03May N n acc user k = k (!((low8 n &&& (if acc == 2 then 4 else if acc == 3 then 8 else 2)) == 0) && (if user then !((low8 n &&& 16) == 0) else (acc != 3 || (low8 n &&& 16) == 0))) := by
  have a4 : IntKind.wrap .i64 (((BitVec.ofInt 64 n &&& BitVec.ofInt 64 4).toNat : Nat) : Int) = ((low8 n &&& 4 : Nat) : Int) := and_low n 4 (by omega)
  have a8 : IntKind.wrap .i64 (((BitVec.ofInt 64 n &&& BitVec.ofInt 64 8).toNat : Nat) : Int) = ((low8 n &&& 8 : Nat) : Int) := and_low n 8 (by omega)
  have a2 : IntKind.wrap .i64 (((BitVec.ofInt 64 n &&& BitVec.ofInt 64 2).toNat : Nat) : Int) = ((low8 n &&& 2 : Nat) : Int) := and_low n 2 (by omega)
  have a16 : IntKind.wrap .i64 (((BitVec.ofInt 64 n &&& BitVec.ofInt 64 16).toNat : Nat) : Int) = ((low8 n &&& 16 : Nat) : Int) := and_low n 16 (by omega)
  have z : ∀ m : Nat, (((m : Nat) : Int) == 0) = (m == 0) := fun m => by rw [Bool.eq_iff_iff]; simp
  have z2 : ∀ m : Nat, (((m : Nat) : Int) != 0) = !(m == 0) := fun m => by rw [Bool.eq_iff_iff]; simp
  have n3 : (acc != 3) = !(acc == 3) := rfl
  unfold g_spec_l03May
  rw [n3]
  simp only [cond_somes, oK_some_eq]
  cases h2 : (acc == 2) <;> cases h3 : (acc == 3) <;> cases user <;>
    simp only [cond_true, cond_false, a4, a8, a2, a16, z, z2, Bool.not_true, Bool.not_false, Bool.false_or, Bool.true_or, if_true, if_false, Bool.false_eq_true, Bool.and_true]
  all_goals first
    | (cases (low8 n &&& 2 == 0) <;> rfl)
    | (cases (low8 n &&& 4 == 0) <;> rfl)
    | (cases (low8 n &&& 8 == 0) <;> rfl)

theorem low8_low8 (e : Int) : low8 ((low8 e : Nat) : Int) = low8 e := by unfold low8; omega

theorem want_k : ∀ m : Nat, m < 256 → ((m &&& 3 == 3) = (!(m &&& 1 == 0) && !(m &&& 2 == 0))) ∧ ((m &&& 5 == 5) = (!(m &&& 1 == 0) && !(m &&& 4 == 0))) ∧ ((m &&& 9 == 9) = (!(m &&& 1 == 0) && !(m &&& 8 == 0))) ∧
    ((m &&& 19 == 19) = (!(m &&& 1 == 0) && (!(m &&& 2 == 0) && !(m &&& 16 == 0)))) ∧ ((m &&& 21 == 21) = (!(m &&& 1 == 0) && (!(m &&& 4 == 0) && !(m &&& 16 == 0)))) ∧ ((m &&& 25 == 25) = (!(m &&& 1 == 0) && (!(m &&& 8 == 0) && !(m &&& 16 == 0)))) := by decide +kernel

theorem impl_ylets_eq (e acc : Int) (ha : acc = 1 ∨ acc = 2 ∨ acc = 3) (user : Bool) (k : Bool → Option R) : g_impl_ylets N ((low8 e : Nat) : Int) acc user k = k (letsB (low8 e) acc user) := by
  obtain ⟨w1, w2, w3, w4, w5, w6⟩ := want_k (low8 e) (low8_lt e)
  have a : ∀ c : Nat, c < 256 → IntKind.wrap .i64 (((BitVec.ofInt 64 ((low8 e : Nat) : Int) &&& BitVec.ofInt 64 (c : Int)).toNat : Nat) : Int) = ((low8 e &&& c : Nat) : Int) := fun c hc => by rw [and_low _ c hc, low8_low8]
  have z : ∀ m c : Nat, (((m : Nat) : Int) == ((c : Nat) : Int)) = (m == c) := fun m c => by rw [Bool.eq_iff_iff]; simp; omega
  have o1 : IntKind.wrap .i64 (((BitVec.ofInt 64 (IntKind.wrap .i64 (((BitVec.ofInt 64 0 ||| BitVec.ofInt 64 2).toNat : Nat) : Int)) ||| BitVec.ofInt 64 1).toNat : Nat) : Int) = ((3 : Nat) : Int) := by decide
  have o2 : IntKind.wrap .i64 (((BitVec.ofInt 64 (IntKind.wrap .i64 (((BitVec.ofInt 64 0 ||| BitVec.ofInt 64 4).toNat : Nat) : Int)) ||| BitVec.ofInt 64 1).toNat : Nat) : Int) = ((5 : Nat) : Int) := by decide
  have o3 : IntKind.wrap .i64 (((BitVec.ofInt 64 (IntKind.wrap .i64 (((BitVec.ofInt 64 0 ||| BitVec.ofInt 64 8).toNat : Nat) : Int)) ||| BitVec.ofInt 64 1).toNat : Nat) : Int) = ((9 : Nat) : Int) := by decide
  have o4 : IntKind.wrap .i64 (((BitVec.ofInt 64 (IntKind.wrap .i64 (((BitVec.ofInt 64 16 ||| BitVec.ofInt 64 2).toNat : Nat) : Int)) ||| BitVec.ofInt 64 1).toNat : Nat) : Int) = ((19 : Nat) : Int) := by decide
  have o5 : IntKind.wrap .i64 (((BitVec.ofInt 64 (IntKind.wrap .i64 (((BitVec.ofInt 64 16 ||| BitVec.ofInt 64 4).toNat : Nat) : Int)) ||| BitVec.ofInt 64 1).toNat : Nat) : Int) = ((21 : Nat) : Int) := by decide
  have o6 : IntKind.wrap .i64 (((BitVec.ofInt 64 (IntKind.wrap .i64 (((BitVec.ofInt 64 16 ||| BitVec.ofInt 64 8).toNat : Nat) : Int)) ||| BitVec.ofInt 64 1).toNat : Nat) : Int) = ((25 : Nat) : Int) := by decide
  have z16 : (IntKind.wrap .i64 (((BitVec.ofInt 64 ((low8 e : Nat) : Int) &&& BitVec.ofInt 64 16).toNat : Nat) : Int) == 0) = (low8 e &&& 16 == 0) := by rw [show (16 : Int) = ((16 : Nat) : Int) from rfl, a 16 (by omega)]; exact z _ 0
  have q1 : ((1 : Int) == 1) = true := rfl
  have q2 : ((2 : Int) == 1) = false := rfl
  have q3 : ((2 : Int) == 2) = true := rfl
  have q4 : ((3 : Int) == 1) = false := rfl
  have q5 : ((3 : Int) == 2) = false := rfl
  have q6 : ((3 : Int) == 3) = true := rfl
  have q7 : ((1 : Int) != 3) = true := rfl
  have q8 : ((2 : Int) != 3) = true := rfl
  have q9 : ((3 : Int) != 3) = false := rfl
  have q10 : ((1 : Int) == 2) = false := rfl
  have q11 : ((1 : Int) == 3) = false := rfl
  have q12 : ((2 : Int) == 3) = false := rfl
  unfold g_impl_ylets letsB
  rcases ha with rfl | rfl | rfl <;> cases user <;>
    simp only [cond_true, cond_false, oK_some_eq, cond_somes, q1, q2, q3, q4, q5, q6, q7, q8, q9, q10, q11, q12, o1, o2, o3, o4, o5, o6, a 3 (by omega), a 5 (by omega), a 9 (by omega), a 19 (by omega), a 21 (by omega), a 25 (by omega), z, z16, w1, w2, w3, w4, w5, w6, if_true, if_false, Bool.false_eq_true, Bool.true_or, Bool.false_or, Bool.and_true]
  all_goals first
    | rfl
    | (cases (low8 e &&& 1 == 0) <;> cases (low8 e &&& 2 == 0) <;> rfl)
    | (cases (low8 e &&& 1 == 0) <;> cases (low8 e &&& 4 == 0) <;> rfl)
    | (cases (low8 e &&& 1 == 0) <;> cases (low8 e &&& 8 == 0) <;> cases (low8 e &&& 16 == 0) <;> rfl)
    | (cases (low8 e &&& 1 == 0) <;> cases (low8 e &&& 2 == 0) <;> cases (low8 e &&& 16 == 0) <;> rfl)
    | (cases (low8 e &&& 1 == 0) <;> cases (low8 e &&& 4 == 0) <;> cases (low8 e &&& 16 == 0) <;> rfl)

structure Look where
  fault : Int
  pa : Int
  entryAt : Int
  old : Int
  entry : Int
  large : Bool
  r0 : Int
  r1 : Int
  many : Int

def wordN (s : ByteArray) (i : Nat) : Nat := (wordAt s i).toNat

theorem wordN_cast (s : ByteArray) (i : Nat) : wordAt s i = ((wordN s i : Nat) : Int) := by
  have := wordAt_bound s i
  unfold wordN
  omega

theorem wordN_lt (s : ByteArray) (i : Nat) : wordN s i < 4294967296 := by
  have := wordAt_bound s i
  unfold wordN
  omega

def putE (e : Nat) (acc : Int) : Nat := e ||| (if acc == 2 then 96 else 32)

/-- An entry leads on to another table. -/
def leadsOn (e : Nat) : Bool := !((low8 e &&& 1) == 0) && ((low8 e &&& 14) == 0)

/-- The place of an entry. -/
@[irreducible] def ent (t i : Nat) : Nat := t * 256 + 4 * i

theorem ent_eq (t i : Nat) : ent t i = t * 256 + 4 * i := by unfold ent; rfl

def look (s : ByteArray) (root va : Nat) (acc : Int) (user : Bool) : Look :=
  let fr := s.size / 256
  let a1 := ent root (va / 8192)
  let e := wordN s a1
  let a2 := ent (e / 256) (va / 256 % 32)
  let e2 := wordN s a2
  cond (decide (fr ≤ root)) ⟨2, 0, 0, 0, 0, false, 0, 0, 0⟩
    (cond (leadsOn e)
      (cond (decide (fr ≤ e / 256)) ⟨2, 0, a1, 0, 0, false, root, 0, 1⟩
        (cond (!letsB (low8 e2) acc user) ⟨1, 0, a2, 0, 0, false, root, (e / 256 : Nat), 2⟩
          (cond (decide (fr ≤ e2 / 256)) ⟨2, 0, a2, 0, 0, false, root, (e / 256 : Nat), 2⟩
            ⟨0, (e2 / 256 * 256 + va % 256 : Nat), a2, e2, putE e2 acc, false, root, (e / 256 : Nat), 2⟩)))
      (cond (!(e / 256 % 32 == 0)) ⟨1, 0, a1, 0, 0, false, root, 0, 1⟩
        (cond (!letsB (low8 e) acc user) ⟨1, 0, a1, 0, 0, false, root, 0, 1⟩
          (cond (decide (fr ≤ e / 256 + va / 256 % 32)) ⟨2, 0, a1, 0, 0, false, root, 0, 1⟩
            ⟨0, ((e / 256 + va / 256 % 32) * 256 + va % 256 : Nat), a1, e, putE e acc, true, root, 0, 1⟩))))

theorem or_nat {a b : Nat} (ha : a < 2 ^ 62) (hb : b < 2 ^ 62) : IntKind.wrap .i64 (((BitVec.ofInt 64 (a : Int) ||| BitVec.ofInt 64 (b : Int)).toNat : Nat) : Int) = ((a ||| b : Nat) : Int) := by
  rw [BitVec.toNat_or, ofInt_nat (by omega), ofInt_nat (by omega)]
  have := Nat.or_lt_two_pow ha hb
  rw [w64 (by omega) (by omega)]

theorem and31 (n : Int) : IntKind.wrap .i64 (((BitVec.ofInt 64 n &&& BitVec.ofInt 64 31).toNat : Nat) : Int) = n % 32 := and_mask n 5 (by omega)

theorem impl_yputs_eq (acc : Int) (k : Int → Option R) : g_impl_yputs N acc k = k (((if acc == 2 then 96 else 32 : Nat)) : Int) := by
  unfold g_impl_yputs
  cases h : acc == 2 <;> rfl

theorem impl_yframes_eq (s : ByteArray) (b : Bool) (hs : s.size ≤ 2 ^ 60) (k : Int → Option R) : g_impl_yframes_w N b (ofBytes s) k = k ((s.size / 256 : Nat) : Int) := by
  unfold g_impl_yframes_w
  rw [ofBytes_length, Int.tdiv_eq_ediv_of_nonneg (by omega), w64 (by omega) (by omega)]
  rfl

theorem low8_255 (e : Nat) : IntKind.wrap .i64 (((BitVec.ofInt 64 (e : Int) &&& BitVec.ofInt 64 255).toNat : Nat) : Int) = ((low8 (e : Int) : Nat) : Int) := by
  rw [and255]; unfold low8; omega

theorem leads_eq (e : Nat) : cond (IntKind.wrap .i64 (((BitVec.ofInt 64 (e : Int) &&& BitVec.ofInt 64 1).toNat : Nat) : Int) != 0) (some (IntKind.wrap .i64 (((BitVec.ofInt 64 (e : Int) &&& BitVec.ofInt 64 14).toNat : Nat) : Int) == 0)) (some false) = some (leadsOn e) := by
  have a1 : IntKind.wrap .i64 (((BitVec.ofInt 64 (e : Int) &&& BitVec.ofInt 64 1).toNat : Nat) : Int) = ((low8 e &&& 1 : Nat) : Int) := and_low _ 1 (by omega)
  have a14 : IntKind.wrap .i64 (((BitVec.ofInt 64 (e : Int) &&& BitVec.ofInt 64 14).toNat : Nat) : Int) = ((low8 e &&& 14 : Nat) : Int) := and_low _ 14 (by omega)
  have z : ∀ m : Nat, (((m : Nat) : Int) == 0) = (m == 0) := fun m => by rw [Bool.eq_iff_iff]; simp
  have z2 : ∀ m : Nat, (((m : Nat) : Int) != 0) = !(m == 0) := fun m => by rw [Bool.eq_iff_iff]; simp
  unfold leadsOn
  rw [a1, a14, z, z2]
  cases (low8 e &&& 1 == 0) <;> rfl

def Look.out (w : Look) (k : Int → Int → Int → Int → Int → Bool → Int → Int → Int → Option R) : Option R := k w.fault w.pa w.entryAt w.old w.entry w.large w.r0 w.r1 w.many

theorem impl_ylookup_eq {s : ByteArray} {root va : Nat} {acc : Int} {user b : Bool} (hs : s.size ≤ 65536) (h256 : s.size % 256 = 0) (hr : root ≤ 255) (hv : va < 262144) (ha : acc = 1 ∨ acc = 2 ∨ acc = 3) (k : Int → Int → Int → Int → Int → Bool → Int → Int → Int → Option R) :
    g_impl_ylookup_w N b root va acc user (ofBytes s) k = (look s root va acc user).out k := by
  unfold g_impl_ylookup_w look
  have e1 : IntKind.wrap .i64 (IntKind.wrap .i64 ((root : Int) * 256) + IntKind.wrap .i64 (4 * ((va : Int) / 8192 % 32))) = ((ent root (va / 8192) : Nat) : Int) := by
    rw [ent_eq, w64 (n := (root : Int) * 256) (by omega) (by omega), w64 (n := 4 * ((va : Int) / 8192 % 32)) (by omega) (by omega), w64 (by omega) (by omega)]; omega
  have hy : ∀ k : Int → Option R, g_impl_yframes_w N b (ofBytes s) k = k ((s.size / 256 : Nat) : Int) := impl_yframes_eq N s b (by omega)
  simp only [fdiv_lit _ (show (0 : Int) ≤ 256 by omega), fdiv_lit _ (show (0 : Int) ≤ 8192 by omega)]
  simp only [and31]
  simp only [e1]
  rw [hy]
  by_cases h0 : s.size / 256 ≤ root
  · rw [decide_eq_true (show ((root : Int) ≥ ((s.size / 256 : Nat) : Int)) by omega), decide_eq_true h0]; rfl
  rw [decide_eq_false (show ¬ ((root : Int) ≥ ((s.size / 256 : Nat) : Int)) by omega), decide_eq_false h0]
  rw [cond_false]
  rw [impl_ygetWord_eq N (show ent root (va / 8192) + 4 ≤ s.size by rw [ent_eq]; omega) (by omega), wordN_cast]
  have hlt := wordN_lt s (ent root (va / 8192))
  generalize wordN s (ent root (va / 8192)) = e at hlt ⊢
  rw [leads_eq, oK_some_eq]
  have ed : (e : Int) / 256 = ((e / 256 : Nat) : Int) := by omega
  rw [ed]
  cases hle : leadsOn e with
  | true =>
    rw [cond_true, hy]
    by_cases h1 : s.size / 256 ≤ e / 256
    · rw [decide_eq_true (show (((e / 256 : Nat) : Int) ≥ ((s.size / 256 : Nat) : Int)) by omega), decide_eq_true h1]; rfl
    rw [decide_eq_false (show ¬ (((e / 256 : Nat) : Int) ≥ ((s.size / 256 : Nat) : Int)) by omega), decide_eq_false h1]
    rw [cond_false]
    have e2 : IntKind.wrap .i64 (IntKind.wrap .i64 (((e / 256 : Nat) : Int) * 256) + IntKind.wrap .i64 (4 * ((va : Int) / 256 % 32))) = ((ent (e / 256) (va / 256 % 32) : Nat) : Int) := by
      rw [ent_eq, w64 (n := ((e / 256 : Nat) : Int) * 256) (by omega) (by omega), w64 (n := 4 * ((va : Int) / 256 % 32)) (by omega) (by omega), w64 (by omega) (by omega)]; omega
    rw [e2, impl_ygetWord_eq N (show ent (e / 256) (va / 256 % 32) + 4 ≤ s.size by rw [ent_eq]; omega) (by omega), wordN_cast]
    have hlt2 := wordN_lt s (ent (e / 256) (va / 256 % 32))
    generalize wordN s (ent (e / 256) (va / 256 % 32)) = e2 at hlt2 ⊢
    rw [low8_255, impl_ylets_eq N _ _ ha]
    cases hle2 : letsB (low8 e2) acc user with
    | false => rfl
    | true =>
      rw [Bool.not_true, cond_false, hy]
      rw [show (e2 : Int) / 256 = ((e2 / 256 : Nat) : Int) by omega]
      by_cases h2 : s.size / 256 ≤ e2 / 256
      · rw [decide_eq_true (show (((e2 / 256 : Nat) : Int) ≥ ((s.size / 256 : Nat) : Int)) by omega), decide_eq_true h2]; rfl
      rw [decide_eq_false (show ¬ (((e2 / 256 : Nat) : Int) ≥ ((s.size / 256 : Nat) : Int)) by omega), decide_eq_false h2, impl_yputs_eq, or_nat (by omega) (by split <;> omega), and255,
        w64 (n := ((e2 / 256 : Nat) : Int) * 256) (by omega) (by omega), w64 (n := ((e2 / 256 : Nat) : Int) * 256 + (va : Int) % 256) (by omega) (by omega)]
      rw [show ((e2 / 256 : Nat) : Int) * 256 + (va : Int) % 256 = ((e2 / 256 * 256 + va % 256 : Nat) : Int) by omega]
      rw [cond_false]
      rfl
  | false =>
    rw [cond_false]
    have hm : (Int.tmod ((e / 256 : Nat) : Int) 32 != 0) = !(e / 256 % 32 == 0) := by
      rw [Int.tmod_eq_emod_of_nonneg (by omega), Bool.eq_iff_iff]; simp; omega
    rw [hm]
    cases hle3 : e / 256 % 32 == 0 with
    | false => rfl
    | true =>
      rw [Bool.not_true, cond_false, cond_false, low8_255, impl_ylets_eq N _ _ ha]
      cases hle2 : letsB (low8 e) acc user with
      | false => rfl
      | true =>
        rw [Bool.not_true, cond_false, cond_false, hy, w64 (n := ((e / 256 : Nat) : Int) + (va : Int) / 256 % 32) (by omega) (by omega), show ((e / 256 : Nat) : Int) + (va : Int) / 256 % 32 = ((e / 256 + va / 256 % 32 : Nat) : Int) by omega]
        by_cases h2 : s.size / 256 ≤ e / 256 + va / 256 % 32
        · rw [decide_eq_true (show (((e / 256 + va / 256 % 32 : Nat) : Int) ≥ ((s.size / 256 : Nat) : Int)) by omega), decide_eq_true h2]; rfl
        rw [decide_eq_false (show ¬ (((e / 256 + va / 256 % 32 : Nat) : Int) ≥ ((s.size / 256 : Nat) : Int)) by omega), decide_eq_false h2, impl_yputs_eq, or_nat (by omega) (by split <;> omega), and255,
          w64 (n := ((e / 256 + va / 256 % 32 : Nat) : Int) * 256) (by omega) (by omega), w64 (n := ((e / 256 + va / 256 % 32 : Nat) : Int) * 256 + (va : Int) % 256) (by omega) (by omega), show ((e / 256 + va / 256 % 32 : Nat) : Int) * 256 + (va : Int) % 256 = (((e / 256 + va / 256 % 32) * 256 + va % 256 : Nat) : Int) by omega]
        rw [cond_false]
        rfl


theorem bits14 : ∀ m : Nat, m < 256 → ((m &&& 14 == 0) = true → (m &&& 2 == 0) = true ∧ (m &&& 4 == 0) = true ∧ (m &&& 8 == 0) = true) := by decide +kernel

/-- What the reference asks of an entry's bits. -/
theorem mayB (e : Nat) (acc : Int) (user : Bool) : ((low8 e &&& 1 == 0) || ((low8 e &&& 14 == 0) || !(!((low8 e &&& (if acc == 2 then 4 else if acc == 3 then 8 else 2)) == 0) && (if user then !((low8 e &&& 16) == 0) else (acc != 3 || (low8 e &&& 16) == 0))))) = !letsB (low8 e) acc user := by
  have h := bits14 (low8 e) (low8_lt e)
  unfold letsB
  cases h1 : (low8 e &&& 1 == 0)
  · cases h14 : (low8 e &&& 14 == 0)
    · rfl
    · obtain ⟨h2, h4, h8⟩ := h h14
      have : ((low8 e &&& (if acc == 2 then 4 else if acc == 3 then 8 else 2)) == 0) = true := by
        split
        · exact h4
        · split
          · exact h8
          · exact h2
      rw [this]; rfl
  · rfl

def framesOf (w : Look) : List Int := cond (w.many == 0) [] (cond (w.many == 1) [w.r0] [w.r0, w.r1])

theorem spec_l03Acc_eq {acc : Int} (ha : acc = 1 ∨ acc = 2 ∨ acc = 3) (k : Bool → Option R) : g_spec_l03Acc N acc k = k true := by
  rcases ha with rfl | rfl | rfl <;> rfl

theorem spec_l03Entry_no {s : ByteArray} {t i : Nat} (ht : t < 2 ^ 40) (h : s.size / 256 ≤ t) (k : Int → Bool → Option R) : g_spec_l03Entry N s t i k = k 0 false := by
  unfold g_spec_l03Entry
  rw [w64 (n := (t : Int) + 1) (by omega) (by omega), w64 (n := ((t : Int) + 1) * 256) (by omega) (by omega), decide_eq_true (show ((t : Int) + 1) * 256 > (s.size : Int) by omega)]
  rfl

theorem spec_l03Entry_yes {s : ByteArray} {t i : Nat} (hs : s.size ≤ 65536) (hi : i < 32) (h : ¬ s.size / 256 ≤ t) (k : Int → Bool → Option R) : g_spec_l03Entry N s t i k = k ((wordN s (ent t i) : Nat) : Int) true := by
  unfold g_spec_l03Entry
  rw [w64 (n := (t : Int) + 1) (by omega) (by omega), w64 (n := ((t : Int) + 1) * 256) (by omega) (by omega), decide_eq_false (show ¬ ((t : Int) + 1) * 256 > (s.size : Int) by omega), cond_false, w64 (n := (t : Int) * 256) (by omega) (by omega), w64 (n := 4 * (i : Int)) (by omega) (by omega), w64 (n := (t : Int) * 256 + 4 * (i : Int)) (by omega) (by omega), show (t : Int) * 256 + 4 * (i : Int) = ((ent t i : Nat) : Int) by rw [ent_eq]; omega,
    spec_l01Word_eq N (show ent t i + 4 ≤ s.size by rw [ent_eq]; omega) (by omega), wordN_cast]

/-- The flags put into an entry, in the reference's way. -/
theorem putE_spec {e : Nat} (he : e < 4294967296) (acc : Int) : cond (acc == 2) (some (IntKind.wrap .i64 (((BitVec.ofInt 64 (IntKind.wrap .i64 (((BitVec.ofInt 64 (e : Int) ||| BitVec.ofInt 64 32).toNat : Nat) : Int)) ||| BitVec.ofInt 64 64).toNat : Nat) : Int))) (some (IntKind.wrap .i64 (((BitVec.ofInt 64 (e : Int) ||| BitVec.ofInt 64 32).toNat : Nat) : Int))) = some ((putE e acc : Nat) : Int) := by
  have h32 : IntKind.wrap .i64 (((BitVec.ofInt 64 (e : Int) ||| BitVec.ofInt 64 32).toNat : Nat) : Int) = ((e ||| 32 : Nat) : Int) := or_nat (b := 32) (by omega) (by omega)
  have hb : e ||| 32 < 2 ^ 32 := Nat.or_lt_two_pow (by omega) (by omega)
  have h96 : IntKind.wrap .i64 (((BitVec.ofInt 64 ((e ||| 32 : Nat) : Int) ||| BitVec.ofInt 64 64).toNat : Nat) : Int) = ((e ||| 32 ||| 64 : Nat) : Int) := or_nat (b := 64) (by omega) (by omega)
  rw [h32, h96]
  unfold putE
  cases h : acc == 2
  · rfl
  · rw [Nat.or_assoc]; rfl

theorem may_eq (e : Nat) (acc : Int) (user : Bool) : cond (IntKind.wrap .i64 (((BitVec.ofInt 64 (e : Int) &&& BitVec.ofInt 64 1).toNat : Nat) : Int) == 0) (some true) (cond (IntKind.wrap .i64 (((BitVec.ofInt 64 (e : Int) &&& BitVec.ofInt 64 14).toNat : Nat) : Int) == 0) (some true) (g_spec_l03May N e acc user fun b => some (!b))) = some (!letsB (low8 e) acc user) := by
  have a1 : IntKind.wrap .i64 (((BitVec.ofInt 64 (e : Int) &&& BitVec.ofInt 64 1).toNat : Nat) : Int) = ((low8 e &&& 1 : Nat) : Int) := and_low _ 1 (by omega)
  have a14 : IntKind.wrap .i64 (((BitVec.ofInt 64 (e : Int) &&& BitVec.ofInt 64 14).toNat : Nat) : Int) = ((low8 e &&& 14 : Nat) : Int) := and_low _ 14 (by omega)
  have z : ∀ m : Nat, (((m : Nat) : Int) == 0) = (m == 0) := fun m => by rw [Bool.eq_iff_iff]; simp
  rw [a1, a14, z, z, spec_l03May_eq, ← mayB]
  cases (low8 e &&& 1 == 0) <;> cases (low8 e &&& 14 == 0) <;> rfl

theorem may_eq32 (e : Nat) (acc : Int) (user b : Bool) : cond (IntKind.wrap .i64 (((BitVec.ofInt 64 (e : Int) &&& BitVec.ofInt 64 1).toNat : Nat) : Int) == 0) (some true) (cond (IntKind.wrap .i64 (((BitVec.ofInt 64 (e : Int) &&& BitVec.ofInt 64 14).toNat : Nat) : Int) == 0) (some true) (cond b (some true) (g_spec_l03May N e acc user fun b => some (!b)))) = some (b || !letsB (low8 e) acc user) := by
  have h := may_eq N e acc user
  cases b
  · exact h
  · cases (IntKind.wrap .i64 (((BitVec.ofInt 64 (e : Int) &&& BitVec.ofInt 64 1).toNat : Nat) : Int) == 0) <;> cases (IntKind.wrap .i64 (((BitVec.ofInt 64 (e : Int) &&& BitVec.ofInt 64 14).toNat : Nat) : Int) == 0) <;> rfl


theorem spec_Walk_eq {s : ByteArray} {root va : Nat} {acc : Int} {user : Bool} (hm : memOk s = true) (hs : s.size ≤ 65536) (h256 : s.size % 256 = 0) (hr : root ≤ 255) (hv : va < 262144) (ha : acc = 1 ∨ acc = 2 ∨ acc = 3) (k : Int → Int → Int → Bool → Bool → ByteArray → List Int → Option R) :
    g_spec_Walk N s root va acc user k = k (look s root va acc user).fault (look s root va acc user).pa (look s root va acc user).entry (look s root va acc user).large false (cond ((look s root va acc user).fault == 0) (setWord s (look s root va acc user).entryAt.toNat (look s root va acc user).entry) s) (framesOf (look s root va acc user)) := by
  unfold g_spec_Walk
  rw [spec_MemFault_eq, hm, cond_true, show ((0 : Int) != 0) = false from rfl, cond_false, decide_eq_false (show ¬ (root : Int) < 0 by omega), cond_false, decide_eq_false (show ¬ (root : Int) > 255 by omega), cond_false, decide_eq_false (show ¬ (va : Int) < 0 by omega), cond_false, decide_eq_false (show ¬ (va : Int) ≥ 262144 by omega), cond_false, spec_l03Acc_eq N ha, oK_some_eq, Bool.not_true, cond_false]
  have f256 : ∀ n : Int, Int.fdiv n 256 = n / 256 := fun n => fdiv_lit n (by omega)
  have t32 : ∀ n : Nat, Int.tmod ((n : Nat) : Int) 32 = ((n % 32 : Nat) : Int) := fun n => by rw [Int.tmod_eq_emod_of_nonneg (by omega)]; omega
  have t256 : ∀ n : Nat, Int.tmod ((n : Nat) : Int) 256 = ((n % 256 : Nat) : Int) := fun n => by rw [Int.tmod_eq_emod_of_nonneg (by omega)]; omega
  have d256 : ∀ n : Nat, ((n : Nat) : Int) / 256 = ((n / 256 : Nat) : Int) := fun n => by omega
  rw [fdiv_lit _ (show (0 : Int) ≤ 8192 by omega), show (va : Int) / 8192 = ((va / 8192 : Nat) : Int) by omega]
  unfold look
  dsimp only
  by_cases h0 : s.size / 256 ≤ root
  · rw [spec_l03Entry_no N (by omega) h0, decide_eq_true h0]; rfl
  rw [spec_l03Entry_yes N hs (by omega) h0, decide_eq_false h0]
  have hlt := wordN_lt s (ent root (va / 8192))
  obtain ⟨e, hE⟩ : ∃ e, wordN s (ent root (va / 8192)) = e := ⟨_, rfl⟩
  rw [hE] at hlt
  rw [hE]
  rw [Bool.not_true, cond_false, leads_eq, oK_some_eq]
  cases hle : leadsOn e with
  | true =>
    rw [cond_true, cond_true, f256, d256, f256, d256, t32]
    by_cases h1 : s.size / 256 ≤ e / 256
    · rw [spec_l03Entry_no N (by omega) h1, decide_eq_true h1]; rfl
    rw [spec_l03Entry_yes N hs (by omega) h1, decide_eq_false h1]
    have hlt2 := wordN_lt s (ent (e / 256) (va / 256 % 32))
    obtain ⟨e2, hE2⟩ : ∃ e2, wordN s (ent (e / 256) (va / 256 % 32)) = e2 := ⟨_, rfl⟩
    rw [hE2] at hlt2
    rw [hE2, Bool.not_true, cond_false, cond_false, may_eq, oK_some_eq]
    cases hl2 : letsB (low8 e2) acc user with
    | false => rfl
    | true =>
      rw [Bool.not_true, cond_false, cond_false, oK_some_eq, f256, d256]
      by_cases h2 : s.size / 256 ≤ e2 / 256
      · rw [w64 (n := ((e2 / 256 : Nat) : Int) + 1) (by omega) (by omega), w64 (n := (((e2 / 256 : Nat) : Int) + 1) * 256) (by omega) (by omega), decide_eq_true (show (((e2 / 256 : Nat) : Int) + 1) * 256 > (s.size : Int) by omega), decide_eq_true h2]; rfl
      rw [w64 (n := ((e2 / 256 : Nat) : Int) + 1) (by omega) (by omega), w64 (n := (((e2 / 256 : Nat) : Int) + 1) * 256) (by omega) (by omega), decide_eq_false (show ¬ (((e2 / 256 : Nat) : Int) + 1) * 256 > (s.size : Int) by omega), decide_eq_false h2, cond_false, cond_false, putE_spec hlt2, oK_some_eq, t256,
        w64 (n := ((e / 256 : Nat) : Int) * 256) (by omega) (by omega), w64 (n := 4 * ((va / 256 % 32 : Nat) : Int)) (by omega) (by omega), w64 (n := ((e / 256 : Nat) : Int) * 256 + 4 * ((va / 256 % 32 : Nat) : Int)) (by omega) (by omega), show ((e / 256 : Nat) : Int) * 256 + 4 * ((va / 256 % 32 : Nat) : Int) = ((ent (e / 256) (va / 256 % 32) : Nat) : Int) by rw [ent_eq]; omega,
        spec_SetWord_eq N (show ent (e / 256) (va / 256 % 32) + 4 ≤ s.size by rw [ent_eq]; omega) hs,
        w64 (n := ((e2 / 256 : Nat) : Int) * 256) (by omega) (by omega), w64 (n := ((e2 / 256 : Nat) : Int) * 256 + ((va % 256 : Nat) : Int)) (by omega) (by omega), show ((e2 / 256 : Nat) : Int) * 256 + ((va % 256 : Nat) : Int) = ((e2 / 256 * 256 + va % 256 : Nat) : Int) by omega]
      rfl
  | false =>
    have hm32 : (Int.tmod ((e / 256 : Nat) : Int) 32 != 0) = !(e / 256 % 32 == 0) := by
      rw [t32, Bool.eq_iff_iff]; simp; omega
    rw [cond_false, cond_false, f256, d256, hm32, may_eq32, oK_some_eq]
    cases hl3 : e / 256 % 32 == 0 with
    | false => rfl
    | true =>
      rw [Bool.not_true, Bool.false_or, cond_false]
      cases hl2 : letsB (low8 e) acc user with
      | false => rfl
      | true =>
        rw [Bool.not_true, cond_false, cond_false, f256, d256, t32, w64 (n := ((e / 256 : Nat) : Int) + ((va / 256 % 32 : Nat) : Int)) (by omega) (by omega), oK_some_eq, show ((e / 256 : Nat) : Int) + ((va / 256 % 32 : Nat) : Int) = ((e / 256 + va / 256 % 32 : Nat) : Int) by omega]
        by_cases h2 : s.size / 256 ≤ e / 256 + va / 256 % 32
        · rw [w64 (n := ((e / 256 + va / 256 % 32 : Nat) : Int) + 1) (by omega) (by omega), w64 (n := (((e / 256 + va / 256 % 32 : Nat) : Int) + 1) * 256) (by omega) (by omega), decide_eq_true (show (((e / 256 + va / 256 % 32 : Nat) : Int) + 1) * 256 > (s.size : Int) by omega), decide_eq_true h2]; rfl
        rw [w64 (n := ((e / 256 + va / 256 % 32 : Nat) : Int) + 1) (by omega) (by omega), w64 (n := (((e / 256 + va / 256 % 32 : Nat) : Int) + 1) * 256) (by omega) (by omega), decide_eq_false (show ¬ (((e / 256 + va / 256 % 32 : Nat) : Int) + 1) * 256 > (s.size : Int) by omega), decide_eq_false h2, cond_false, cond_false, putE_spec hlt, oK_some_eq, t256,
          w64 (n := (root : Int) * 256) (by omega) (by omega), w64 (n := 4 * ((va / 8192 : Nat) : Int)) (by omega) (by omega), w64 (n := (root : Int) * 256 + 4 * ((va / 8192 : Nat) : Int)) (by omega) (by omega), show (root : Int) * 256 + 4 * ((va / 8192 : Nat) : Int) = ((ent root (va / 8192) : Nat) : Int) by rw [ent_eq]; omega,
          spec_SetWord_eq N (show ent root (va / 8192) + 4 ≤ s.size by rw [ent_eq]; omega) hs,
          w64 (n := ((e / 256 + va / 256 % 32 : Nat) : Int) * 256) (by omega) (by omega), w64 (n := ((e / 256 + va / 256 % 32 : Nat) : Int) * 256 + ((va % 256 : Nat) : Int)) (by omega) (by omega), show ((e / 256 + va / 256 % 32 : Nat) : Int) * 256 + ((va % 256 : Nat) : Int) = (((e / 256 + va / 256 % 32) * 256 + va % 256 : Nat) : Int) by omega]
        rfl


theorem look_facts (s : ByteArray) {root va : Nat} (acc : Int) (user : Bool) (hv : va < 262144) :
    ((look s root va acc user).many = 0 ∨ (look s root va acc user).many = 1 ∨ (look s root va acc user).many = 2) ∧
    ((look s root va acc user).fault = 0 → ∃ f t i : Nat, f < s.size / 256 ∧ t < s.size / 256 ∧ i < 32 ∧ (look s root va acc user).pa = ((f * 256 + va % 256 : Nat) : Int) ∧ (look s root va acc user).entryAt = ((ent t i : Nat) : Int)) := by
  unfold look
  dsimp only
  by_cases h0 : s.size / 256 ≤ root
  · rw [decide_eq_true h0]
    exact ⟨.inl rfl, fun h => absurd (show (2 : Int) = 0 from h) (by decide)⟩
  rw [decide_eq_false h0, cond_false]
  obtain ⟨e, hE⟩ : ∃ e, wordN s (ent root (va / 8192)) = e := ⟨_, rfl⟩
  rw [hE]
  cases leadsOn e with
  | true =>
    rw [cond_true]
    by_cases h1 : s.size / 256 ≤ e / 256
    · rw [decide_eq_true h1]
      exact ⟨.inr (.inl rfl), fun h => absurd (show (2 : Int) = 0 from h) (by decide)⟩
    rw [decide_eq_false h1, cond_false]
    obtain ⟨e2, hE2⟩ : ∃ e2, wordN s (ent (e / 256) (va / 256 % 32)) = e2 := ⟨_, rfl⟩
    rw [hE2]
    cases letsB (low8 e2) acc user with
    | false => exact ⟨.inr (.inr rfl), fun h => absurd (show (1 : Int) = 0 from h) (by decide)⟩
    | true =>
      rw [Bool.not_true, cond_false]
      by_cases h2 : s.size / 256 ≤ e2 / 256
      · rw [decide_eq_true h2]
        exact ⟨.inr (.inr rfl), fun h => absurd (show (2 : Int) = 0 from h) (by decide)⟩
      rw [decide_eq_false h2, cond_false]
      exact ⟨.inr (.inr rfl), fun _ => ⟨e2 / 256, e / 256, va / 256 % 32, by omega, by omega, by omega, rfl, rfl⟩⟩
  | false =>
    rw [cond_false]
    cases e / 256 % 32 == 0 with
    | false => exact ⟨.inr (.inl rfl), fun h => absurd (show (1 : Int) = 0 from h) (by decide)⟩
    | true =>
      rw [Bool.not_true, cond_false]
      cases letsB (low8 e) acc user with
      | false => exact ⟨.inr (.inl rfl), fun h => absurd (show (1 : Int) = 0 from h) (by decide)⟩
      | true =>
        rw [Bool.not_true, cond_false]
        by_cases h2 : s.size / 256 ≤ e / 256 + va / 256 % 32
        · rw [decide_eq_true h2]
          exact ⟨.inr (.inl rfl), fun h => absurd (show (2 : Int) = 0 from h) (by decide)⟩
        rw [decide_eq_false h2, cond_false]
        exact ⟨.inr (.inl rfl), fun _ => ⟨e / 256 + va / 256 % 32, root, va / 8192, by omega, by omega, by omega, rfl, rfl⟩⟩

theorem rng3 {a b c : Nat} (h1 : a ≤ b) (h2 : b ≤ c) : ((decide ((0 : Int) ≤ (a : Int)) && decide ((a : Int) ≤ (b : Int))) && decide ((b : Int) ≤ (c : Int))) = true := by
  rw [decide_eq_true (show (0 : Int) ≤ (a : Int) by omega), decide_eq_true (show (a : Int) ≤ (b : Int) by omega), decide_eq_true (show (b : Int) ≤ (c : Int) by omega)]; rfl

theorem toBytes_all (s : ByteArray) : toBytes (seg (ofBytes s) 0 (ofBytes s).length) = s := by rw [seg_all, toBytes_ofBytes]

/-- A fold over a list, each place going on with another state. -/
theorem foldL {T S : Type} (lp : Nat → Int → S → Option R) (l : List T) (g : S → T → S) (I : Nat → S → Prop) (k : S → Option R)
    (h : ∀ f i s x, i < l.length → nth l i = some x → I i s → lp (f + 1) (i : Int) s = lp f ((i + 1 : Nat) : Int) (g s x) ∧ I (i + 1) (g s x))
    (he : ∀ f s, I l.length s → lp (f + 1) (l.length : Int) s = k s) {s : S} (hs : I 0 s) {f : Nat} (hf : l.length < f) : lp f 0 s = k (l.foldl g s) ∧ I l.length (l.foldl g s) := by
  have := fold lp l.length (fun i s => atD l i (g s) s) I k (fun f i s hi hI => by
    obtain ⟨x, hx⟩ := nth_some hi
    rw [atD_some hx]
    exact h f i s x hi hx hI) he hs hf
  rw [foldl_atD] at this
  exact this

theorem tmod_nn {n m : Int} (h : 0 ≤ n) : n.tmod m = n % m := Int.tmod_eq_emod_of_nonneg h

def dm (a n : Nat) : Nat := if 256 - a % 256 < n then 256 - a % 256 else n

theorem dm_facts {a n : Nat} (h : 0 < n) : 0 < dm a n ∧ dm a n ≤ n ∧ a % 256 + dm a n ≤ 256 := by
  unfold dm
  split <;> omega

def toA (q : Nat × Nat) : A2i64 := ⟨(q.1 : Int), (q.2 : Int)⟩

def lk (s : ByteArray) (root a : Nat) (acc : Int) : Look := look s root a acc true

def dmaK (root : Nat) (acc : Int) : Nat → ByteArray → Nat → Nat → (Int → Option R) → (ByteArray → List (Nat × Nat) → Option R) → Option R
  | 0, s, _, _, _, kN => kN s []
  | d + 1, s, a, n, kR, kN => cond (decide (0 < n)) (cond ((lk s root a acc).fault != 0) (kR (a : Int))
      (dmaK root acc d (setWord s (lk s root a acc).entryAt.toNat (lk s root a acc).entry) (a + dm a n) (n - dm a n) kR (fun s' L => kN s' (((lk s root a acc).pa.toNat, dm a n) :: L)))) (kN s [])

theorem dmaK_succ (root : Nat) (acc : Int) (d : Nat) (s : ByteArray) (a n : Nat) (kR : Int → Option R) (kN : ByteArray → List (Nat × Nat) → Option R) : dmaK root acc (d + 1) s a n kR kN = cond (decide (0 < n)) (cond ((lk s root a acc).fault != 0) (kR (a : Int))
      (dmaK root acc d (setWord s (lk s root a acc).entryAt.toNat (lk s root a acc).entry) (a + dm a n) (n - dm a n) kR (fun s' L => kN s' (((lk s root a acc).pa.toNat, dm a n) :: L)))) (kN s []) := rfl

theorem lk_ok {s : ByteArray} {root a : Nat} {acc : Int} (hv : a < 262144) (h : (lk s root a acc).fault = 0) : ∃ f t i : Nat, f < s.size / 256 ∧ t < s.size / 256 ∧ i < 32 ∧ (lk s root a acc).pa = ((f * 256 + a % 256 : Nat) : Int) ∧ (lk s root a acc).entryAt = ((ent t i : Nat) : Int) :=
  (look_facts s acc true hv).2 h

theorem dmaK_eq (root : Nat) (acc : Int) : ∀ (d n a : Nat) (s : ByteArray), n ≤ d → a + n ≤ 262144 → s.size % 256 = 0 →
    (∃ p : Int, ∀ (kR : Int → Option R) kN, dmaK root acc d s a n kR kN = kR p) ∨
    (∃ (s' : ByteArray) (L : List (Nat × Nat)), s'.size = s.size ∧ (∀ q ∈ L, q.1 + q.2 ≤ s.size) ∧ (L.map (·.2)).sum = n ∧ L.length ≤ n ∧ ∀ (kR : Int → Option R) kN, dmaK root acc d s a n kR kN = kN s' L)
  | 0, n, a, s, hn, _, _ => .inr ⟨s, [], rfl, (by intro q hq; cases hq), (by simp; omega), (by simp), fun _ _ => rfl⟩
  | d + 1, n, a, s, hn, ha, h256 => by
    by_cases h0 : 0 < n
    case neg => exact .inr ⟨s, [], rfl, (by intro q hq; cases hq), (by simp; omega), (by simp), fun kR kN => by rw [dmaK_succ, decide_eq_false h0, cond_false]⟩
    cases hf : ((lk s root a acc).fault != 0) with
    | true => exact .inl ⟨a, fun kR kN => by rw [dmaK_succ, decide_eq_true h0, cond_true, hf, cond_true]⟩
    | false =>
      have hf0 : (lk s root a acc).fault = 0 := by simpa using hf
      obtain ⟨f, t, i, hf1, ht, hi, hpa, hea⟩ := lk_ok (by omega) hf0
      obtain ⟨d1, d2, d3⟩ := dm_facts (a := a) h0
      have hen : ent t i + 4 ≤ s.size := by rw [ent_eq]; omega
      have hsz := setWord_size hen (lk s root a acc).entry
      have hpn : (lk s root a acc).pa.toNat = f * 256 + a % 256 := by rw [hpa, Int.toNat_natCast]
      rcases dmaK_eq root acc d (n - dm a n) (a + dm a n) (setWord s (ent t i) (lk s root a acc).entry) (by omega) (by omega) (by rw [hsz]; exact h256) with ⟨p, h⟩ | ⟨s', L, g1, g2, g3, g4, h⟩
      · exact .inl ⟨p, fun kR kN => by rw [dmaK_succ, decide_eq_true h0, cond_true, hf, cond_false, hea, Int.toNat_natCast, h]⟩
      · refine .inr ⟨s', ((lk s root a acc).pa.toNat, dm a n) :: L, by rw [g1, hsz], ?_, ?_, ?_, fun kR kN => by rw [dmaK_succ, decide_eq_true h0, cond_true, hf, cond_false, hea, Int.toNat_natCast, h]⟩
        · intro q hq
          rcases List.mem_cons.1 hq with rfl | hq
          · simp only [hpn]; omega
          · have := g2 q hq; omega
        · rw [List.map_cons, List.sum_cons, g3]; simp only; omega
        · rw [List.length_cons]; omega

theorem memOk_size {s t : ByteArray} (h : t.size = s.size) : memOk t = memOk s := by unfold memOk; rw [h]

theorem impl_ydma_go (root : Nat) (acc : Int) (hr : root ≤ 255) (ha : acc = 1 ∨ acc = 2 ∨ acc = 3) (b4 : Bool) (n8 n9 : Int) (s1 s2 : ByteArray) : ∀ (d n a f : Nat) (s : ByteArray) (b : Bool) (l1 : List A2i64), n ≤ d → d < f → a + n ≤ 262144 → s.size % 256 = 0 → s.size ≤ 65536 → l1.length + n ≤ 2 ^ 20 →
    ∃ b', ∀ (kR : Bool → Int → List Int → List A2i64 → Option R) (kR' : Int → Option R) (kN : Bool → List Int → List A2i64 → Option R), (∀ b p l m, kR b p l m = kR' p) →
      l_impl_ydma_0 N (root : Int) acc b4 n8 n9 s1 s2 kR kN f (a : Int) (n : Int) b (ofBytes s) l1 = dmaK root acc d s a n kR' (fun s' L => kN b' (ofBytes s') (l1 ++ L.map toA)) := by
  intro d
  induction d with
  | zero =>
    intro n a f s b l1 hn hf ha2 h256 hs hl
    obtain ⟨f, rfl⟩ : ∃ j, f = j + 1 := ⟨f - 1, by omega⟩
    refine ⟨b, fun kR kR' kN hR => ?_⟩
    rw [l_impl_ydma_0, s_impl_ydma_0, decide_eq_false (show ¬ (n : Int) > 0 by omega), cond_false, dmaK, List.map_nil, List.append_nil]
  | succ d ih =>
    intro n a f s b l1 hn hf ha2 h256 hs hl
    obtain ⟨f, rfl⟩ : ∃ j, f = j + 1 := ⟨f - 1, by omega⟩
    by_cases h0 : 0 < n
    case neg =>
      refine ⟨b, fun kR kR' kN hR => ?_⟩
      rw [l_impl_ydma_0, s_impl_ydma_0, decide_eq_false (show ¬ (n : Int) > 0 by omega), cond_false, dmaK_succ, decide_eq_false h0, cond_false, List.map_nil, List.append_nil]
    have hlk := fun k => impl_ylookup_eq N (R := R) (s := s) (root := root) (va := a) (acc := acc) (user := true) (b := b4) hs h256 hr (by omega) ha k
    change ∀ k, _ = (lk s root a acc).out k at hlk
    cases hft : ((lk s root a acc).fault != 0) with
    | true =>
      refine ⟨b, fun kR kR' kN hR => ?_⟩
      rw [l_impl_ydma_0, s_impl_ydma_0, decide_eq_true (show (n : Int) > 0 by omega), cond_true, hlk, Look.out, hft, cond_true, hR, dmaK_succ, decide_eq_true h0, cond_true, hft, cond_true]
    | false =>
      have hf0 : (lk s root a acc).fault = 0 := by simpa using hft
      obtain ⟨g, t, i, hg, ht, hi, hpa, hea⟩ := lk_ok (by omega) hf0
      obtain ⟨d1, d2, d3⟩ := dm_facts (a := a) h0
      have hen : ent t i + 4 ≤ s.size := by rw [ent_eq]; omega
      have hsz := setWord_size hen (lk s root a acc).entry
      have hst : (if decide (IntKind.wrap .i64 (256 - Int.tmod (a : Int) 256) < (n : Int)) = true then IntKind.wrap .i64 (256 - Int.tmod (a : Int) 256) else (n : Int)) = ((dm a n : Nat) : Int) := by
        rw [tmod_nn (by omega), w64 (by omega) (by omega)]
        unfold dm
        by_cases h : 256 - a % 256 < n
        · rw [decide_eq_true (by omega), if_pos rfl, if_pos h]; omega
        · rw [decide_eq_false (by omega), if_neg (by simp), if_neg h]
      have e1 : IntKind.wrap .i64 ((a : Int) + ((dm a n : Nat) : Int)) = ((a + dm a n : Nat) : Int) := by rw [w64 (by omega) (by omega)]; omega
      have e2 : IntKind.wrap .i64 ((n : Int) - ((dm a n : Nat) : Int)) = ((n - dm a n : Nat) : Int) := by rw [w64 (by omega) (by omega)]; omega
      have hA : (⟨(lk s root a acc).pa, ((dm a n : Nat) : Int)⟩ : A2i64) = toA ((lk s root a acc).pa.toNat, dm a n) := by unfold toA; rw [hpa, Int.toNat_natCast]
      obtain ⟨b', h⟩ := ih (n - dm a n) (a + dm a n) f (setWord s (ent t i) (lk s root a acc).entry) (cond (Nat.beq 1 0) b false) (l1 ++ [toA ((lk s root a acc).pa.toNat, dm a n)]) (by omega) (by omega) (by omega) (by rw [hsz]; exact h256) (by omega) (by rw [List.length_append, List.length_singleton]; omega)
      refine ⟨b', fun kR kR' kN hR => ?_⟩
      have h := h kR kR' kN hR
      rw [l_impl_ydma_0, s_impl_ydma_0, decide_eq_true (show (n : Int) > 0 by omega), cond_true, hlk, Look.out, hft, cond_false, hea, impl_yputWord_eq N hen (by omega), hst, hA, List.length_singleton, room (show (l1.length + 1) * 16 ≤ 2 ^ 47 by omega) (by omega), cond_true, e1, e2, dmaK_succ, decide_eq_true h0, cond_true, hft, cond_false, hea, Int.toNat_natCast]
      refine h.trans ?_
      congr 1
      funext s' L
      rw [List.append_assoc]
      rfl

theorem spec_dma_go (root : Nat) (acc : Int) (hr : root ≤ 255) (ha : acc = 1 ∨ acc = 2 ∨ acc = 3) (n9 n10 : Int) (s2 s3 : ByteArray) (kR : ByteArray → Bool → Bool → Int → List Int → List Int → Option R) (kR' : Int → Option R) (hR : ∀ s b c p l m, kR s b c p l m = kR' p) : ∀ (d n a f : Nat) (s : ByteArray) (l l1 : List Int) (kN : ByteArray → Bool → Bool → List Int → List Int → Option R), n ≤ d → d < f → a + n ≤ 262144 → memOk s = true → s.size % 256 = 0 → s.size ≤ 65536 → l.length + n ≤ 2 ^ 20 → l1.length + n ≤ 2 ^ 20 →
      l_spec_l11Dma_0 N (root : Int) acc n9 n10 s2 s3 kR kN f s (a : Int) (n : Int) false false l l1 = dmaK root acc d s a n kR' (fun s' L => kN s' false false (l ++ L.map (fun q => (q.1 : Int))) (l1 ++ L.map (fun q => (q.2 : Int)))) := by
  intro d
  induction d with
  | zero =>
    intro n a f s l l1 kN hn hf ha2 hm h256 hs hl hl1
    obtain ⟨f, rfl⟩ : ∃ j, f = j + 1 := ⟨f - 1, by omega⟩
    rw [l_spec_l11Dma_0, s_spec_l11Dma_0, decide_eq_false (show ¬ (n : Int) > 0 by omega), cond_false, dmaK, List.map_nil, List.map_nil, List.append_nil, List.append_nil]
  | succ d ih =>
    intro n a f s l l1 kN hn hf ha2 hm h256 hs hl hl1
    obtain ⟨f, rfl⟩ : ∃ j, f = j + 1 := ⟨f - 1, by omega⟩
    by_cases h0 : 0 < n
    case neg =>
      rw [l_spec_l11Dma_0, s_spec_l11Dma_0, decide_eq_false (show ¬ (n : Int) > 0 by omega), cond_false, dmaK_succ, decide_eq_false h0, cond_false, List.map_nil, List.map_nil, List.append_nil, List.append_nil]
    have hwk : ∀ k : Int → Int → Int → Bool → Bool → ByteArray → List Int → Option R, g_spec_Walk N s (root : Int) (a : Int) acc true k = k (lk s root a acc).fault (lk s root a acc).pa (lk s root a acc).entry (lk s root a acc).large false (cond ((lk s root a acc).fault == 0) (setWord s (lk s root a acc).entryAt.toNat (lk s root a acc).entry) s) (framesOf (lk s root a acc)) :=
      fun k => spec_Walk_eq N (R := R) (s := s) (root := root) (va := a) (acc := acc) (user := true) hm hs h256 hr (by omega) ha k
    obtain ⟨d1, d2, d3⟩ := dm_facts (a := a) h0
    have hmin : ∀ k : Int → Option R, g_spec_l01Min N (n : Int) (IntKind.wrap .i64 (256 - Int.tmod (a : Int) 256)) k = k ((dm a n : Nat) : Int) := fun k => by
      rw [tmod_nn (by omega), w64 (by omega) (by omega), g_spec_l01Min]
      unfold dm
      by_cases h : 256 - a % 256 < n
      · rw [decide_eq_false (by omega), cond_false, if_pos h]; congr 1; omega
      · by_cases h' : n < 256 - a % 256
        · rw [decide_eq_true (by omega), cond_true, if_neg h]
        · rw [decide_eq_false (by omega), cond_false, if_neg h]; congr 1; omega
    cases hft : ((lk s root a acc).fault != 0) with
    | true =>
      rw [l_spec_l11Dma_0, s_spec_l11Dma_0, decide_eq_true (show (n : Int) > 0 by omega), cond_true, hmin, hwk, hft, cond_true, hR, dmaK_succ, decide_eq_true h0, cond_true, hft, cond_true]
    | false =>
      have hf0 : (lk s root a acc).fault = 0 := by simpa using hft
      have hf1 : ((lk s root a acc).fault == 0) = true := by simpa using hft
      obtain ⟨g, t, i, hg, ht, hi, hpa, hea⟩ := lk_ok (by omega) hf0
      have hen : ent t i + 4 ≤ s.size := by rw [ent_eq]; omega
      have hsz := setWord_size hen (lk s root a acc).entry
      have e1 : IntKind.wrap .i64 ((a : Int) + ((dm a n : Nat) : Int)) = ((a + dm a n : Nat) : Int) := by rw [w64 (by omega) (by omega)]; omega
      have e2 : IntKind.wrap .i64 ((n : Int) - ((dm a n : Nat) : Int)) = ((n - dm a n : Nat) : Int) := by rw [w64 (by omega) (by omega)]; omega
      have hp2 : (lk s root a acc).pa = (((lk s root a acc).pa.toNat : Nat) : Int) := by rw [hpa, Int.toNat_natCast]
      rw [l_spec_l11Dma_0, s_spec_l11Dma_0, decide_eq_true (show (n : Int) > 0 by omega), cond_true, hmin, hwk, hft, cond_false, hf1, cond_true, hea, List.length_singleton, List.length_singleton, room (show (l.length + 1) * 8 ≤ 2 ^ 47 by omega) (by omega), cond_true, room (show (l1.length + 1) * 8 ≤ 2 ^ 47 by omega) (by omega), cond_true, e1, e2, dmaK_succ, decide_eq_true h0, cond_true, hft, cond_false, hea, Int.toNat_natCast]
      refine (ih (n - dm a n) (a + dm a n) f (setWord s (ent t i) (lk s root a acc).entry) (l ++ [(lk s root a acc).pa]) (l1 ++ [((dm a n : Nat) : Int)]) kN (by omega) (by omega) (by omega) (by rw [memOk_size hsz]; exact hm) (by rw [hsz]; exact h256) (by omega) (by rw [List.length_append, List.length_singleton]; omega) (by rw [List.length_append, List.length_singleton]; omega)).trans ?_
      congr 1
      funext s' L
      rw [List.append_assoc, List.append_assoc, List.map_cons, List.map_cons, ← hp2]
      rfl


theorem splice_bytes {s t : ByteArray} {p : Nat} (h : p + t.size ≤ s.size) : Go.Eng.splice (ofBytes s) p (ofBytes t) = ofBytes (splice s p t) := by
  rw [splice_eq _ _ _ (by rw [ofBytes_length, ofBytes_length]; omega)]
  unfold splice
  rw [ofBytes_append, ofBytes_append, ofBytes_extract, ofBytes_extract, ofBytes_length, List.drop_zero, ← ofBytes_length s, List.take_length]

theorem splice_size {s t : ByteArray} {p : Nat} (h : p + t.size ≤ s.size) : (splice s p t).size = s.size := by
  unfold splice
  rw [ByteArray.size_append, ByteArray.size_append, ByteArray.size_extract, ByteArray.size_extract]; omega

def dmaPut (st : ByteArray × ByteArray) (q : Nat × Nat) : ByteArray × ByteArray := (st.1.extract q.2 st.1.size, splice st.2 q.1 (st.1.extract 0 q.2))

/-- What a transfer leaves of memory. -/
def dmaMem (t s : ByteArray) (L : List (Nat × Nat)) : ByteArray := (L.foldl dmaPut (t, s)).2

theorem drop_nth {T : Type} {l : List T} {i : Nat} {x : T} (h : nth l i = some x) : l.drop i = x :: l.drop (i + 1) := by
  rw [nth_eq] at h
  obtain ⟨h1, h2⟩ := List.getElem?_eq_some_iff.1 h
  rw [← h2]; exact List.drop_eq_getElem_cons h1

theorem impl_write_go {s t : ByteArray} {L : List (Nat × Nat)} (hs : s.size ≤ 65536) (hL : L.length ≤ 65536) (hq : ∀ q ∈ L, q.1 + q.2 ≤ s.size) (ht : (L.map (·.2)).sum = t.size) (b3 b4 : Bool) (n6 n7 n8 n9 : Int) (s3 s4 s5 s6 : ByteArray) (hN : 2 ^ 40 < N) (kN : List Int → Option R) :
    l_impl_DmaWrite_0 N b3 b4 ((L.map toA).length : Int) n6 n7 s3 s4 n8 n9 s5 s6 (L.map toA) kN N t 0 (ofBytes s) = kN (ofBytes (dmaMem t s L)) ∧ (dmaMem t s L).size = s.size := by
  rw [List.length_map]
  obtain ⟨h, h2⟩ := foldL (fun f i (z : ByteArray × ByteArray) => l_impl_DmaWrite_0 N b3 b4 (L.length : Int) n6 n7 s3 s4 n8 n9 s5 s6 (L.map toA) kN f z.1 i (ofBytes z.2)) L dmaPut (fun i z => z.2.size = s.size ∧ z.1.size = ((L.drop i).map (·.2)).sum) (fun z => kN (ofBytes z.2)) (fun f i z q hi hx hz => by
    have hx' : nth (L.map toA) i = some (toA q) := by rw [nth_map, hx]; rfl
    have hqq := hq q (by rw [nth_eq] at hx; exact List.mem_of_getElem? hx)
    obtain ⟨z1, z2⟩ := hz
    rw [drop_nth hx, List.map_cons, List.sum_cons] at z2
    have e1 : IntKind.wrap .i64 ((q.1 : Int) + (q.2 : Int)) = ((q.1 + q.2 : Nat) : Int) := by rw [w64 (by omega) (by omega)]; omega
    have e2 : IntKind.wrap .i64 ((i : Int) + 1) = ((i + 1 : Nat) : Int) := by rw [w64 (by omega) (by omega)]; omega
    have e3 : (z.1.extract 0 q.2).size = q.2 := by rw [ByteArray.size_extract]; omega
    have hsp : q.1 + (z.1.extract 0 q.2).size ≤ z.2.size := by omega
    refine ⟨?_, by unfold dmaPut; rw [splice_size hsp]; exact z1, by unfold dmaPut; simp only; rw [ByteArray.size_extract]; omega⟩
    rw [l_impl_DmaWrite_0, s_impl_DmaWrite_0, dec_lt hi, cond_true, dec_nn, List.length_map, dec_lt hi, Bool.and_self, cond_true, Int.toNat_natCast, elemK_some hx']
    unfold toA
    rw [e1, ofBytes_length, rng3 (show q.1 ≤ q.1 + q.2 by omega) (show q.1 + q.2 ≤ z.2.size by omega), cond_true, dec_nn, decide_eq_true (show (q.2 : Int) ≤ (z.1.size : Int) by omega), Bool.and_self, cond_true, Int.toNat_natCast, Int.toNat_natCast, Int.toNat_natCast, ofBytes_length, e3, Nat.add_sub_cancel_left, ble_t (Nat.le_refl _), cond_true, ble_t (show q.1 + q.2 ≤ z.2.size by omega), cond_true, decide_eq_true (show (z.1.size : Int) ≤ (z.1.size : Int) by omega), Bool.and_self, cond_true, Int.toNat_natCast, splice_bytes hsp, e2]
    rfl) (fun f z _ => by
    rw [l_impl_DmaWrite_0, s_impl_DmaWrite_0, dec_nlt, cond_false]) (s := (t, s)) ⟨rfl, ht.symm⟩ (f := N) (by omega)
  exact ⟨h, h2.1⟩

theorem spec_write_go {s t : ByteArray} {L : List (Nat × Nat)} (hs : s.size ≤ 65536) (hL : L.length ≤ 65536) (hq : ∀ q ∈ L, q.1 + q.2 ≤ s.size) (ht : (L.map (·.2)).sum = t.size) (b2 b3 : Bool) (n5 n6 n7 n8 : Int) (s4 s5 s6 : ByteArray) (hN : 2 ^ 40 < N) (kN : ByteArray → Option R) :
    l_spec_DmaWrite_0 N b2 b3 n5 n6 s4 s5 n7 n8 s6 (L.map (fun q => (q.1 : Int))) (L.map (fun q => (q.2 : Int))) kN N t 0 s = kN (dmaMem t s L) := by
  obtain ⟨h, _⟩ := foldL (fun f i (z : ByteArray × ByteArray) => l_spec_DmaWrite_0 N b2 b3 n5 n6 s4 s5 n7 n8 s6 (L.map (fun q => (q.1 : Int))) (L.map (fun q => (q.2 : Int))) kN f z.1 i z.2) L dmaPut (fun i z => z.2.size = s.size ∧ z.1.size = ((L.drop i).map (·.2)).sum) (fun z => kN z.2) (fun f i z q hi hx hz => by
    have hx1 : nth (L.map (fun q => (q.1 : Int))) i = some (q.1 : Int) := by rw [nth_map, hx]; rfl
    have hx2 : nth (L.map (fun q => (q.2 : Int))) i = some (q.2 : Int) := by rw [nth_map, hx]; rfl
    have hqq := hq q (by rw [nth_eq] at hx; exact List.mem_of_getElem? hx)
    obtain ⟨z1, z2⟩ := hz
    rw [drop_nth hx, List.map_cons, List.sum_cons] at z2
    have e1 : IntKind.wrap .i64 ((q.1 : Int) + (q.2 : Int)) = ((q.1 + q.2 : Nat) : Int) := by rw [w64 (by omega) (by omega)]; omega
    have e2 : IntKind.wrap .i64 ((i : Int) + 1) = ((i + 1 : Nat) : Int) := by rw [w64 (by omega) (by omega)]; omega
    have e3 : (z.1.extract 0 q.2).size = q.2 := by rw [ByteArray.size_extract]; omega
    have e4 : (z.2.extract 0 q.1).size = q.1 := by rw [ByteArray.size_extract]; omega
    have e5 : (z.2.extract (q.1 + q.2) z.2.size).size = z.2.size - (q.1 + q.2) := by rw [ByteArray.size_extract]; omega
    have hsp : q.1 + (z.1.extract 0 q.2).size ≤ z.2.size := by omega
    refine ⟨?_, by unfold dmaPut; rw [splice_size hsp]; exact z1, by unfold dmaPut; simp only; rw [ByteArray.size_extract]; omega⟩
    have e6 : (z.2.extract 0 q.1 ++ z.1.extract 0 q.2).size = q.1 + q.2 := by rw [ByteArray.size_append, e3, e4]
    simp -implicitDefEqProofs only [l_spec_DmaWrite_0, s_spec_DmaWrite_0, List.length_map, dec_lt hi, cond_true, dec_nn, Bool.and_self, Int.toNat_natCast, elemK_some hx1, elemK_some hx2, e1, decide_eq_true (show (q.1 : Int) ≤ (z.2.size : Int) by omega), decide_eq_true (show (q.2 : Int) ≤ (z.1.size : Int) by omega), decide_eq_true (show ((q.1 + q.2 : Nat) : Int) ≤ (z.2.size : Int) by omega), decide_eq_true (show (z.2.size : Int) ≤ (z.2.size : Int) by omega), decide_eq_true (show (z.1.size : Int) ≤ (z.1.size : Int) by omega), e3, e4, e5, e6, ble_t (show q.1 + q.2 ≤ 9223372036854775807 by omega), ble_t (show q.1 + q.2 + (z.2.size - (q.1 + q.2)) ≤ 9223372036854775807 by omega), e2]
    unfold dmaPut splice
    rw [e3]) (fun f z _ => by
    rw [l_spec_DmaWrite_0, s_spec_DmaWrite_0, List.length_map, dec_nlt, cond_false]) (s := (t, s)) ⟨rfl, ht.symm⟩ (f := N) (by omega)
  exact h

theorem eqDma_self (c p : Int) (s t : ByteArray) (k : Bool → Option R) : g_laws_eqDma N c p s t c p s t k = k true := by
  unfold g_laws_eqDma
  rw [bne_self_eq_false, cond_false, bne_self_eq_false, cond_false, decide_eq_true rfl, decide_eq_true rfl]
  rfl

def dmaBad (s : ByteArray) (root a n : Int) : Bool := !memOk s || (!(decide (root ≥ 0) && decide (root ≤ 255)) || (!(decide (a ≥ 0) && decide (a ≤ 262143)) || (!(decide (n ≥ 0) && decide (n ≤ 65536)) || decide (n > 262144 - a))))

theorem dmaBad_facts {s : ByteArray} {root a n : Int} (h : dmaBad s root a n = false) : memOk s = true ∧ 0 ≤ root ∧ root ≤ 255 ∧ 0 ≤ a ∧ 0 ≤ n ∧ n ≤ 65536 ∧ a + n ≤ 262144 ∧ s.size % 256 = 0 ∧ s.size ≤ 65536 := by
  unfold dmaBad at h
  simp only [Bool.or_eq_false_iff, Bool.not_eq_false', Bool.and_eq_true, decide_eq_true_eq, decide_eq_false_iff_not] at h
  obtain ⟨h1, h2, h3, h4, h5⟩ := h
  have hm := h1
  unfold memOk at hm
  simp only [Bool.and_eq_true, decide_eq_true_eq] at hm
  have h6 : Int.tmod (s.size : Int) 256 = 0 := by simpa using hm.2.2
  rw [tmod_nn (by omega)] at h6
  exact ⟨h1, by omega, by omega, by omega, by omega, by omega, by omega, by omega, by omega⟩

theorem impl_ydma_eq {s : ByteArray} {root a n acc : Int} (ha : acc = 1 ∨ acc = 2 ∨ acc = 3) (hN : 2 ^ 40 < N) (h1 : dmaBad s root a n = false) :
    ∃ b', ∀ k : Bool → Bool → Int → Int → List Int → List A2i64 → Option R, g_impl_ydma N s root a n acc k = dmaK root.toNat acc n.toNat s a.toNat n.toNat (fun p => k true true 7 p [] []) (fun s' L => k false b' 0 0 (ofBytes s') (L.map toA)) := by
  obtain ⟨hm, h2, h3, h4, h5, h6, h7, h8, h9⟩ := dmaBad_facts h1
  obtain ⟨r, rfl⟩ := Int.eq_ofNat_of_zero_le h2
  obtain ⟨a, rfl⟩ := Int.eq_ofNat_of_zero_le h4
  obtain ⟨n, rfl⟩ := Int.eq_ofNat_of_zero_le h5
  obtain ⟨b', h⟩ := impl_ydma_go N (R := R) r acc (by omega) ha false 0 0 ⟨[].toArray⟩ ⟨[].toArray⟩ n n a N s true [] (by omega) (by omega) (by omega) h8 h9 (by simp; omega)
  refine ⟨b', fun k => ?_⟩
  unfold dmaBad at h1
  have ht : ∀ (a b c d e : Bool) (K : Bool → Option R), (!a || (!b || (!c || (!d || e)))) = false → (oK (cond (!a) (some true) (cond (!b) (some true) (cond (!c) (some true) (cond (!d) (some true) (some e))))) K) = K false := fun a b c d e K => by cases a <;> cases b <;> cases c <;> cases d <;> intro h <;> first | (rw [show e = false from h]; rfl) | cases h
  unfold g_impl_ydma
  simp -implicitDefEqProofs only [impl_ymemOk_eq, impl_yin_eq]
  rw [w64 (n := 262144 - (a : Int)) (by omega) (by omega), ht _ _ _ _ _ _ h1, cond_false]
  exact h _ (fun p => k true true 7 p [] []) _ (fun _ _ _ _ => rfl)

theorem impl_ydma_bad {s : ByteArray} {root a n acc : Int} (h1 : dmaBad s root a n = true) (k : Bool → Bool → Int → Int → List Int → List A2i64 → Option R) : g_impl_ydma N s root a n acc k = k true true 1 0 [] [] := by
  have h2 : (!memOk s || (!(decide (root ≥ 0) && decide (root ≤ 255)) || (!(decide (a ≥ 0) && decide (a ≤ 262143)) || (!(decide (n ≥ 0) && decide (n ≤ 65536)) || decide (n > IntKind.wrap .i64 (262144 - a)))))) = true := by
    by_cases h : decide (a ≥ 0) && decide (a ≤ 262143) = true
    · have h' := h
      simp only [Bool.and_eq_true, decide_eq_true_eq] at h'
      rw [w64 (by omega) (by omega)]; exact h1
    · rw [show (decide (a ≥ 0) && decide (a ≤ 262143)) = false by simpa using h, Bool.not_false, Bool.true_or, Bool.or_true, Bool.or_true]
  have ht : ∀ (a b c d e : Bool) (K : Bool → Option R), (!a || (!b || (!c || (!d || e)))) = true → (oK (cond (!a) (some true) (cond (!b) (some true) (cond (!c) (some true) (cond (!d) (some true) (some e))))) K) = K true := fun a b c d e K => by cases a <;> cases b <;> cases c <;> cases d <;> intro h <;> first | rfl | (rw [show e = true from h]; rfl)
  unfold g_impl_ydma
  simp -implicitDefEqProofs only [impl_ymemOk_eq, impl_yin_eq]
  rw [ht _ _ _ _ _ _ h2, cond_true]

theorem spec_l11_test (a b c d e f g h : Bool) (K : Bool → Option R) : (oK (cond ((cond a (0 : Int) 1) != 0) (some true) (cond b (some true) (cond c (some true) (cond d (some true) (cond e (some true) (cond f (some true) (cond g (some true) (some h)))))))) K) = K (!a || (b || (c || (d || (e || (f || (g || h))))))) := by
  cases a <;> cases b <;> cases c <;> cases d <;> cases e <;> cases f <;> cases g <;> rfl

theorem spec_bad_eq {s : ByteArray} {root a n : Int} : (!memOk s || (decide (root < 0) || (decide (root > 255) || (decide (a < 0) || (decide (a ≥ 262144) || (decide (n < 0) || (decide (n > 65536) || decide (IntKind.wrap .i64 (a + n) > 262144)))))))) = dmaBad s root a n := by
  unfold dmaBad
  cases memOk s with
  | false => rfl
  | true =>
    rw [Bool.not_true, Bool.false_or, Bool.false_or]
    by_cases h : (0 ≤ root ∧ root ≤ 255) ∧ (0 ≤ a ∧ a ≤ 262143) ∧ (0 ≤ n ∧ n ≤ 65536)
    · obtain ⟨⟨h1, h2⟩, ⟨h3, h4⟩, h5, h6⟩ := h
      rw [w64 (by omega) (by omega), decide_eq_false (show ¬ root < 0 by omega), decide_eq_false (show ¬ root > 255 by omega), decide_eq_false (show ¬ a < 0 by omega), decide_eq_false (show ¬ a ≥ 262144 by omega), decide_eq_false (show ¬ n < 0 by omega), decide_eq_false (show ¬ n > 65536 by omega), decide_eq_true (show root ≥ 0 by omega), decide_eq_true h2, decide_eq_true (show a ≥ 0 by omega), decide_eq_true h4, decide_eq_true (show n ≥ 0 by omega), decide_eq_true h6]
      simp only [Bool.false_or, Bool.and_self, Bool.not_true]
      exact decide_eq_decide.2 (by omega)
    · have e1 : (decide (root < 0) || (decide (root > 255) || (decide (a < 0) || (decide (a ≥ 262144) || (decide (n < 0) || decide (n > 65536)))))) = true := by
        simp only [Bool.or_eq_true, decide_eq_true_eq]; omega
      have e2 : (!(decide (root ≥ 0) && decide (root ≤ 255)) || (!(decide (a ≥ 0) && decide (a ≤ 262143)) || !(decide (n ≥ 0) && decide (n ≤ 65536)))) = true := by
        simp only [Bool.or_eq_true, Bool.not_eq_true', Bool.and_eq_false_iff, decide_eq_false_iff_not]; omega
      have c1 : ∀ a b c d e f g : Bool, (a || (b || (c || (d || (e || f))))) = true → (a || (b || (c || (d || (e || (f || g)))))) = true := by decide
      have c2 : ∀ a b c d : Bool, (a || (b || c)) = true → (a || (b || (c || d))) = true := by decide
      rw [c1 _ _ _ _ _ _ _ e1, c2 _ _ _ _ e2]

theorem spec_dma_eq {s : ByteArray} {root a n acc : Int} (ha : acc = 1 ∨ acc = 2 ∨ acc = 3) (hs : ¬ (s.size : Int) > 65536) (hN : 2 ^ 40 < N) (k : Int → Int → ByteArray → Bool → Bool → List Int → List Int → Option R) :
    g_spec_l11Dma N s root a n acc k = cond (dmaBad s root a n) (k 1 0 ⟨[].toArray⟩ true true [] []) (dmaK root.toNat acc n.toNat s a.toNat n.toNat (fun p => k 7 p ⟨[].toArray⟩ true true [] []) (fun s' L => k 0 0 s' false false (L.map (fun q => (q.1 : Int))) (L.map (fun q => (q.2 : Int))))) := by
  unfold g_spec_l11Dma
  rw [decide_eq_false hs, cond_false, spec_MemFault_eq, spec_l11_test, spec_bad_eq]
  cases h1 : dmaBad s root a n with
  | true => rfl
  | false =>
    obtain ⟨hm, h2, h3, h4, h5, h6, h7, h8, h9⟩ := dmaBad_facts h1
    obtain ⟨r, rfl⟩ := Int.eq_ofNat_of_zero_le h2
    obtain ⟨a, rfl⟩ := Int.eq_ofNat_of_zero_le h4
    obtain ⟨n, rfl⟩ := Int.eq_ofNat_of_zero_le h5
    rw [cond_false, cond_false]
    unfold c_spec_l11Dma_0
    exact spec_dma_go N r acc (by omega) ha 0 0 ⟨[].toArray⟩ ⟨[].toArray⟩ _ (fun p => k 7 p ⟨[].toArray⟩ true true [] []) (fun _ _ _ _ _ _ => rfl) n n a N s [] [] _ (by omega) (by omega) (by omega) hm h8 h9 (by simp; omega) (by simp; omega)


theorem spec_write_nil (s0 t : ByteArray) (b2 b3 : Bool) (n6 n7 n8 n9 : Int) (s2 s3 s4 : ByteArray) (hN : 2 ^ 40 < N) (kN : ByteArray → Option R) : l_spec_DmaWrite_0 N b2 b3 n6 n7 s2 s3 n8 n9 s4 [] [] kN N t 0 s0 = kN s0 := by
  obtain ⟨M, rfl⟩ : ∃ M, N = M + 1 := ⟨N - 1, by omega⟩
  rfl

theorem ybig2_eq {t u : ByteArray} (hN : 2 ^ 40 < N) (k : Bool → Option R) : g_impl_ybig_w N false [t, u] k = k (decide ((t.size : Int) > 65536) || decide ((u.size : Int) > 65536)) := by
  obtain ⟨M, rfl⟩ : ∃ M, N = M + 3 := ⟨N - 3, by omega⟩
  unfold g_impl_ybig_w c_impl_ybig_w_0
  show cond (decide ((t.size : Int) > 65536)) (k true) (cond (decide ((u.size : Int) > 65536)) (k true) (k false)) = _
  cases decide ((t.size : Int) > 65536) <;> cases decide ((u.size : Int) > 65536) <;> rfl

/-- Both write the same. -/
theorem DmaWrite_both {s t : ByteArray} {root a : Int} (hN : 2 ^ 40 < N) : ∃ (c p : Int) (m : ByteArray), (∀ k : Int → Int → ByteArray → Option R, g_impl_DmaWrite N s root a t k = k c p m) ∧ ∀ k : Int → Int → ByteArray → Option R, g_spec_DmaWrite N s root a t k = k c p m := by
  by_cases ht : (t.size : Int) > 65536
  · refine ⟨2, 0, ⟨[].toArray⟩, fun k => ?_, fun k => ?_⟩
    · unfold g_impl_DmaWrite
      rw [ybig2_eq N hN, decide_eq_true ht, Bool.or_true, cond_true]
    · unfold g_spec_DmaWrite
      rw [decide_eq_true ht, cond_true]
  by_cases hs : (s.size : Int) > 65536
  · refine ⟨2, 0, ⟨[].toArray⟩, fun k => ?_, fun k => ?_⟩
    · unfold g_impl_DmaWrite
      rw [ybig2_eq N hN, decide_eq_true hs, Bool.true_or, cond_true]
    · unfold g_spec_DmaWrite g_spec_l11Dma
      rw [decide_eq_false ht, cond_false, decide_eq_true hs, cond_true]
      exact spec_write_nil N _ _ _ _ _ _ _ _ _ _ _ hN _
  cases h1 : dmaBad s root a (t.size : Int) with
  | true =>
    refine ⟨1, 0, ⟨[].toArray⟩, fun k => ?_, fun k => ?_⟩
    · unfold g_impl_DmaWrite
      rw [ybig2_eq N hN, decide_eq_false hs, decide_eq_false ht, Bool.or_self, cond_false, impl_ydma_bad N h1]
      rfl
    · unfold g_spec_DmaWrite
      rw [decide_eq_false ht, cond_false, spec_dma_eq N (.inr (.inl rfl)) hs hN, h1, cond_true]
      exact spec_write_nil N _ _ _ _ _ _ _ _ _ _ _ hN _
  | false =>
    obtain ⟨hm, h2, h3, h4, h5, h6, h7, h8, h9⟩ := dmaBad_facts h1
    obtain ⟨b', hI⟩ := impl_ydma_eq N (R := R) (acc := 2) (.inr (.inl rfl)) hN h1
    rcases dmaK_eq (R := R) root.toNat 2 (t.size : Int).toNat (t.size : Int).toNat a.toNat s (Nat.le_refl _) (by omega) h8 with ⟨p, hp⟩ | ⟨s', L, g1, g2, g3, g4, hp⟩
    · refine ⟨7, p, ⟨[].toArray⟩, fun k => ?_, fun k => ?_⟩
      · unfold g_impl_DmaWrite
        rw [ybig2_eq N hN, decide_eq_false hs, decide_eq_false ht, Bool.or_self, cond_false, hI, hp]
        rfl
      · unfold g_spec_DmaWrite
        rw [decide_eq_false ht, cond_false, spec_dma_eq N (.inr (.inl rfl)) hs hN, h1, cond_false, hp]
        exact spec_write_nil N _ _ _ _ _ _ _ _ _ _ _ hN _
    · have hq : ∀ q ∈ L, q.1 + q.2 ≤ s'.size := fun q hq => by rw [g1]; exact g2 q hq
      rw [Int.toNat_natCast] at g3
      refine ⟨0, 0, dmaMem t s' L, fun k => ?_, fun k => ?_⟩
      · unfold g_impl_DmaWrite c_impl_DmaWrite_0
        rw [ybig2_eq N hN, decide_eq_false hs, decide_eq_false ht, Bool.or_self, cond_false, hI, hp]
        rw [show ((0 : Int) != 0) = false from rfl, cond_false, (impl_write_go N (by omega) (by omega) hq g3 _ _ _ _ _ _ _ _ _ _ hN _).1, Nat.zero_add, ble_t (Nat.le_refl _), cond_true, toBytes_all]
      · unfold g_spec_DmaWrite
        rw [decide_eq_false ht, cond_false, spec_dma_eq N (.inr (.inl rfl)) hs hN, h1, cond_false, hp]
        exact spec_write_go N (by omega) (by omega) hq g3 _ _ _ _ _ _ _ _ _ hN _

theorem law_DmaWrite {s s1 : ByteArray} {n n1 : Int} (hN : 2 ^ 40 < N) (k : Bool → Option R) : g_laws_FnExactDmaWrite N s n n1 s1 k = k true := by
  obtain ⟨c, p, m, hI, hS⟩ := DmaWrite_both N (R := R) (s := s) (t := s1) (root := n) (a := n1) hN
  unfold g_laws_FnExactDmaWrite
  rw [hS, hI, eqDma_self]
  cases decide ((s.size : Int) > 1048576) <;> cases decide ((s1.size : Int) > 1048576) <;> rfl

end
end Go.Sa
