import Derived.Test.YtflmjaehnbnjnaaW10
set_option linter.all false
namespace Go.Sa
open Go Go.Eng
section
variable {R : Type} (N : Nat)
variable {R : Type}

@[simp] theorem impl_yin_eq (a lo hi : Int) (k : Bool → Option R) : g_impl_yin N a lo hi k = k (decide (a ≥ lo) && decide (a ≤ hi)) := by
  simp [g_impl_yin]

def word (n : Int) : Int := n % 4294967296

def putWord (n : Int) : ByteArray := toBytes [word n % 256, word n / 256 % 256, word n / 65536 % 256, word n / 16777216 % 256]

theorem putWord_size (n : Int) : (putWord n).size = 4 := toBytes_size _

theorem spec_l01Mod_eq {n m : Int} (hm : 0 < m) (hm2 : m ≤ 2 ^ 62) (k : Int → Option R) : g_spec_l01Mod N n m k = k (n % m) := by
  unfold g_spec_l01Mod
  obtain ⟨h1, h2⟩ := tmod_bound (n := n) hm
  rw [show (m == 0) = false by rw [beq_dec]; exact decide_eq_false (by omega), ← tmod_add (n := n) hm]
  by_cases h : n.tmod m < 0
  · rw [decide_eq_true h, if_pos h, w64 (by omega) (by omega)]; rfl
  · rw [decide_eq_false h, if_neg h]; rfl

theorem spec_Word_eq (n : Int) (k : Int → Option R) : g_spec_Word N n k = k (word n) := by
  unfold g_spec_Word
  rw [spec_l01Mod_eq N (by omega) (by omega)]
  rfl

theorem spec_PutWord_eq (n : Int) (k : ByteArray → Option R) : g_spec_PutWord N n k = k (putWord n) := by
  simp only [g_spec_PutWord, spec_Word_eq, Go.Eng.wu8, fdiv_lit _ (show (0 : Int) ≤ 256 by omega), fdiv_lit _ (show (0 : Int) ≤ 65536 by omega), fdiv_lit _ (show (0 : Int) ≤ 16777216 by omega), seg_all]
  rfl


def wordAt (s : ByteArray) (i : Nat) : Int := bt s i + bt s (i + 1) * 256 + bt s (i + 2) * 65536 + bt s (i + 3) * 16777216

theorem wordAt_bound (s : ByteArray) (i : Nat) : 0 ≤ wordAt s i ∧ wordAt s i < 4294967296 := by
  have h0 := bt_bound s i
  have h1 := bt_bound s (i + 1)
  have h2 := bt_bound s (i + 2)
  have h3 := bt_bound s (i + 3)
  unfold wordAt
  omega

theorem spec_l01Word_eq {s : ByteArray} {i : Nat} (h : i + 4 ≤ s.size) (hs : s.size ≤ 2 ^ 60) (k : Int → Option R) : g_spec_l01Word N s (i : Int) k = k (wordAt s i) := by
  have h0 := bt_bound s i
  have h1 := bt_bound s (i + 1)
  have h2 := bt_bound s (i + 2)
  have h3 := bt_bound s (i + 3)
  have e1 : IntKind.wrap .i64 ((i : Int) + 1) = ((i + 1 : Nat) : Int) := by rw [w64 (by omega) (by omega)]; omega
  have e2 : IntKind.wrap .i64 ((i : Int) + 2) = ((i + 2 : Nat) : Int) := by rw [w64 (by omega) (by omega)]; omega
  have e3 : IntKind.wrap .i64 ((i : Int) + 3) = ((i + 3 : Nat) : Int) := by rw [w64 (by omega) (by omega)]; omega
  simp only [g_spec_l01Word, e1, e2, e3, dec_nn, dec_lt (show i < s.size by omega), dec_lt (show i + 1 < s.size by omega), dec_lt (show i + 2 < s.size by omega), dec_lt (show i + 3 < s.size by omega), Bool.and_true, cond_true, Int.toNat_natCast]
  rw [w64 (n := bt s i) (by omega) (by omega), w64 (n := bt s (i + 1)) (by omega) (by omega), w64 (n := bt s (i + 2)) (by omega) (by omega), w64 (n := bt s (i + 3)) (by omega) (by omega), w64 (n := bt s (i + 1) * 256) (by omega) (by omega), w64 (n := bt s (i + 2) * 65536) (by omega) (by omega), w64 (n := bt s (i + 3) * 16777216) (by omega) (by omega), w64 (n := bt s i + bt s (i + 1) * 256) (by omega) (by omega), w64 (n := bt s i + bt s (i + 1) * 256 + bt s (i + 2) * 65536) (by omega) (by omega), w64 (n := bt s i + bt s (i + 1) * 256 + bt s (i + 2) * 65536 + bt s (i + 3) * 16777216) (by omega) (by omega)]
  rfl

theorem or_word (a b c d : Int) (ha : 0 ≤ a ∧ a ≤ 255) (hb : 0 ≤ b ∧ b ≤ 255) (hc : 0 ≤ c ∧ c ≤ 255) (hd : 0 ≤ d ∧ d ≤ 255) :
    IntKind.wrap .i64 (((BitVec.ofInt 64 (IntKind.wrap .i64 (((BitVec.ofInt 64 (IntKind.wrap .i64 (((BitVec.ofInt 64 a ||| BitVec.ofInt 64 (b * 256)).toNat : Nat) : Int)) ||| BitVec.ofInt 64 (c * 65536)).toNat : Nat) : Int)) ||| BitVec.ofInt 64 (d * 16777216)).toNat : Nat) : Int) = a + b * 256 + c * 65536 + d * 16777216 := by
  have com : ∀ x y : Int, (BitVec.ofInt 64 x ||| BitVec.ofInt 64 y) = (BitVec.ofInt 64 y ||| BitVec.ofInt 64 x) := fun x y => BitVec.or_comm _ _
  have h1 := or_add (a := b * 256) (b := a) 8 (by omega) (by omega) (by omega) (by omega) (by omega)
  have h2 := or_add (a := c * 65536) (b := b * 256 + a) 16 (by omega) (by omega) (by omega) (by omega) (by omega)
  have h3 := or_add (a := d * 16777216) (b := c * 65536 + (b * 256 + a)) 24 (by omega) (by omega) (by omega) (by omega) (by omega)
  rw [com a, h1, com (b * 256 + a), h2, com (c * 65536 + (b * 256 + a)), h3]
  omega

def memOk (s : ByteArray) : Bool := decide ((s.size : Int) ≥ 256) && (decide ((s.size : Int) ≤ 65536) && (Int.tmod (s.size : Int) 256 == 0))

theorem impl_ymemOk_eq (s : ByteArray) (k : Bool → Option R) : g_impl_ymemOk N s k = k (memOk s) := by
  unfold g_impl_ymemOk memOk
  cases decide ((s.size : Int) ≥ 256) <;> cases decide ((s.size : Int) ≤ 65536) <;> rfl

theorem spec_MemFault_eq (s : ByteArray) (k : Int → Option R) : g_spec_MemFault N s k = k (cond (memOk s) 0 1) := by
  have e : ((s.size : Int) == 0 || (Int.tmod (s.size : Int) 256 != 0 || decide ((s.size : Int) > 65536))) = !memOk s := by
    unfold memOk
    rw [Int.tmod_eq_emod_of_nonneg (by omega), Bool.eq_iff_iff]
    have h0 : (0 : Int) ≤ (s.size : Int) := by omega
    generalize (s.size : Int) = m at h0 ⊢
    simp
    omega
  unfold g_spec_MemFault
  simp only [cond_somes, oK_some_eq, Bool.cond_true_left, e]
  cases memOk s <;> rfl

def splice (s : ByteArray) (a : Nat) (t : ByteArray) : ByteArray := (s.extract 0 a ++ t) ++ s.extract (a + t.size) s.size

theorem ofBytes_length (s : ByteArray) : (ofBytes s).length = s.size := by
  unfold ofBytes
  rw [List.length_map, Array.length_toList]
  rfl

theorem nth_ofBytes {s : ByteArray} {i : Nat} (h : i < s.size) : nth (ofBytes s) i = some (bt s i) := by
  have h' : i < s.data.toList.length := by rw [Array.length_toList]; exact h
  unfold ofBytes bt
  rw [nth_eq, List.getElem?_map, List.getElem?_eq_getElem h', List.getD_eq_getElem?_getD, List.getElem?_eq_getElem h']
  rfl

theorem toBytes_ofBytes (s : ByteArray) : toBytes (ofBytes s) = s := by
  obtain ⟨⟨l⟩⟩ := s
  unfold toBytes ofBytes
  simp only [List.map_map]
  have : (l.map ((fun x : Int => UInt8.ofNat x.toNat) ∘ fun c : UInt8 => (c.toNat : Int))) = l := by
    rw [List.map_congr_left (g := id) (fun c _ => by simp), List.map_id]
  rw [this]

theorem ofBytes_append (s t : ByteArray) : ofBytes (s ++ t) = ofBytes s ++ ofBytes t := by
  obtain ⟨⟨a⟩⟩ := s
  obtain ⟨⟨b⟩⟩ := t
  have e : (⟨⟨a⟩⟩ ++ ⟨⟨b⟩⟩ : ByteArray).data = (⟨a⟩ ++ ⟨b⟩ : Array UInt8) := ByteArray.data_append
  unfold ofBytes
  rw [e]
  simp

theorem ofBytes_extract (s : ByteArray) (i j : Nat) : ofBytes (s.extract i j) = ((ofBytes s).take j).drop i := by
  unfold ofBytes
  rw [ByteArray.data_extract, Array.toList_extract, List.extract_eq_drop_take, ← List.map_take, ← List.map_drop, List.drop_take]

theorem ofBytes_toBytes {l : List Int} (h : ∀ x ∈ l, 0 ≤ x ∧ x < 256) : ofBytes (toBytes l) = l := by
  unfold ofBytes toBytes
  simp only [List.map_map]
  rw [List.map_congr_left (g := id) (fun x hx => ?_), List.map_id]
  have := h x hx
  simp
  omega

theorem ofBytes_putWord (v : Int) : ofBytes (putWord v) = [v % 256, v / 256 % 256, v / 65536 % 256, v / 16777216 % 256] := by
  unfold putWord
  rw [ofBytes_toBytes (by intro x hx; simp only [List.mem_cons, List.not_mem_nil, or_false] at hx; omega)]
  unfold word
  simp only [List.cons.injEq, and_true]
  omega

def setWord (s : ByteArray) (i : Nat) (v : Int) : ByteArray := (s.extract 0 i ++ putWord v) ++ s.extract (i + 4) s.size

theorem ofBytes_setWord {s : ByteArray} {i : Nat} (h : i + 4 ≤ s.size) (v : Int) :
    nset (nset (nset (nset (ofBytes s) i (v % 256)) (i + 1) (v / 256 % 256)) (i + 2) (v / 65536 % 256)) (i + 3) (v / 16777216 % 256) = ofBytes (setWord s i v) := by
  have hl := ofBytes_length s
  unfold setWord
  rw [ofBytes_append, ofBytes_append, ofBytes_extract, ofBytes_extract, ofBytes_putWord, ← hl]
  rw [← hl] at h
  generalize ofBytes s = l at h ⊢
  simp only [List.drop_zero, List.take_length]
  apply List.ext_getElem?
  intro j
  rw [← nth_eq]
  simp only [nth_nset, nset_length]
  rw [List.append_assoc, List.getElem?_append, List.getElem?_append]
  simp only [List.length_take, List.length_cons, List.length_nil, Nat.min_eq_left (show i ≤ l.length by omega)]
  by_cases h0 : j < i
  · rw [if_neg (by omega), if_neg (by omega), if_neg (by omega), if_neg (by omega), if_pos h0, List.getElem?_take_of_lt h0, nth_eq]
  · rw [if_neg h0]
    by_cases h4 : j - i < 0 + 1 + 1 + 1 + 1
    · rw [if_pos h4]
      obtain ⟨d, rfl⟩ : ∃ d, j = i + d := ⟨j - i, by omega⟩
      rw [show i + d - i = d by omega] at h4 ⊢
      match d, h4 with
      | 0, _ => rw [if_neg (by omega), if_neg (by omega), if_neg (by omega), if_pos (by omega)]; rfl
      | 1, _ => rw [if_neg (by omega), if_neg (by omega), if_pos (by omega)]; rfl
      | 2, _ => rw [if_neg (by omega), if_pos (by omega)]; rfl
      | 3, _ => rw [if_pos (by omega)]; rfl
    · rw [if_neg h4, if_neg (by omega), if_neg (by omega), if_neg (by omega), if_neg (by omega), List.getElem?_drop, nth_eq]
      congr 1
      omega

theorem setWord_size {s : ByteArray} {i : Nat} (h : i + 4 ≤ s.size) (v : Int) : (setWord s i v).size = s.size := by
  unfold setWord
  rw [ByteArray.size_append, ByteArray.size_append, ByteArray.size_extract, ByteArray.size_extract, putWord_size]
  omega


theorem impl_ygetWord_eq {s : ByteArray} {i : Nat} {b : Bool} (h : i + 4 ≤ s.size) (hs : s.size ≤ 2 ^ 60) (k : Int → Option R) : g_impl_ygetWord_w N b (i : Int) (ofBytes s) k = k (wordAt s i) := by
  have h0 := bt_bound s i
  have h1 := bt_bound s (i + 1)
  have h2 := bt_bound s (i + 2)
  have h3 := bt_bound s (i + 3)
  have e1 : IntKind.wrap .i64 ((i : Int) + 1) = ((i + 1 : Nat) : Int) := by rw [w64 (by omega) (by omega)]; omega
  have e2 : IntKind.wrap .i64 ((i : Int) + 2) = ((i + 2 : Nat) : Int) := by rw [w64 (by omega) (by omega)]; omega
  have e3 : IntKind.wrap .i64 ((i : Int) + 3) = ((i + 3 : Nat) : Int) := by rw [w64 (by omega) (by omega)]; omega
  simp only [g_impl_ygetWord_w, e1, e2, e3, dec_nn, ofBytes_length, dec_lt (show i < s.size by omega), dec_lt (show i + 1 < s.size by omega), dec_lt (show i + 2 < s.size by omega), dec_lt (show i + 3 < s.size by omega), Bool.and_true, cond_true, Int.toNat_natCast,
    elemK_some (nth_ofBytes (show i < s.size by omega)), elemK_some (nth_ofBytes (show i + 1 < s.size by omega)), elemK_some (nth_ofBytes (show i + 2 < s.size by omega)), elemK_some (nth_ofBytes (show i + 3 < s.size by omega))]
  rw [w64 (n := bt s i) (by omega) (by omega), w64 (n := bt s (i + 1)) (by omega) (by omega), w64 (n := bt s (i + 2)) (by omega) (by omega), w64 (n := bt s (i + 3)) (by omega) (by omega), w64 (n := bt s (i + 1) * 256) (by omega) (by omega), w64 (n := bt s (i + 2) * 65536) (by omega) (by omega), w64 (n := bt s (i + 3) * 16777216) (by omega) (by omega), or_word _ _ _ _ h0 h1 h2 h3]
  rfl

theorem impl_yputWord_eq {s : ByteArray} {i : Nat} {v : Int} {b : Bool} (h : i + 4 ≤ s.size) (hs : s.size ≤ 2 ^ 60) (k : List Int → Option R) : g_impl_yputWord_w N b (i : Int) v (ofBytes s) k = k (ofBytes (setWord s i v)) := by
  have e1 : IntKind.wrap .i64 ((i : Int) + 1) = ((i + 1 : Nat) : Int) := by rw [w64 (by omega) (by omega)]; omega
  have e2 : IntKind.wrap .i64 ((i : Int) + 2) = ((i + 2 : Nat) : Int) := by rw [w64 (by omega) (by omega)]; omega
  have e3 : IntKind.wrap .i64 ((i : Int) + 3) = ((i + 3 : Nat) : Int) := by rw [w64 (by omega) (by omega)]; omega
  have hl := ofBytes_length s
  rw [← ofBytes_setWord h]
  generalize ofBytes s = l at hl ⊢
  obtain ⟨x0, hx0⟩ := nth_some (l := l) (n := i) (by omega)
  obtain ⟨x1, hx1⟩ := nth_some (l := nset l i (v % 256)) (n := i + 1) (by rw [nset_length]; omega)
  obtain ⟨x2, hx2⟩ := nth_some (l := nset (nset l i (v % 256)) (i + 1) (v / 256 % 256)) (n := i + 2) (by simp only [nset_length]; omega)
  obtain ⟨x3, hx3⟩ := nth_some (l := nset (nset (nset l i (v % 256)) (i + 1) (v / 256 % 256)) (i + 2) (v / 65536 % 256)) (n := i + 3) (by simp only [nset_length]; omega)
  simp only [g_impl_yputWord_w, e1, e2, e3, Go.Eng.wu8, fdiv_lit _ (show (0 : Int) ≤ 256 by omega), fdiv_lit _ (show (0 : Int) ≤ 65536 by omega), fdiv_lit _ (show (0 : Int) ≤ 16777216 by omega), dec_nn, nset_length, dec_lt (show i < l.length by omega), dec_lt (show i + 1 < l.length by omega), dec_lt (show i + 2 < l.length by omega), dec_lt (show i + 3 < l.length by omega), Bool.and_true, cond_true, Int.toNat_natCast,
    elemK_some hx0, elemK_some hx1, elemK_some hx2, elemK_some hx3, blt_t (show i < l.length by omega), blt_t (show i + 1 < l.length by omega), blt_t (show i + 2 < l.length by omega), blt_t (show i + 3 < l.length by omega)]

theorem spec_GetWord_eq {s : ByteArray} {i : Nat} (h : i + 4 ≤ s.size) (hs : s.size ≤ 65536) (k : Bool → Int → Option R) : g_spec_GetWord N s (i : Int) k = k true (wordAt s i) := by
  unfold g_spec_GetWord
  rw [w64 (n := (s.size : Int) - 4) (by omega) (by omega), decide_eq_false (show ¬ (s.size : Int) > 65536 by omega), decide_eq_false (show ¬ (i : Int) < 0 by omega), decide_eq_false (show ¬ (i : Int) > (s.size : Int) - 4 by omega)]
  simp only [cond_false, oK_some_eq]
  exact spec_l01Word_eq N h (by omega) _

theorem spec_SetWord_eq {s : ByteArray} {i : Nat} {v : Int} (h : i + 4 ≤ s.size) (hs : s.size ≤ 65536) (k : ByteArray → Option R) : g_spec_SetWord N s (i : Int) v k = k (setWord s i v) := by
  unfold g_spec_SetWord setWord
  have e1 : IntKind.wrap .i64 ((i : Int) + 4) = ((i + 4 : Nat) : Int) := by rw [w64 (by omega) (by omega)]; omega
  rw [spec_GetWord_eq N h hs]
  simp only [e1, dec_nn, Int.toNat_natCast, decide_eq_true (show ((i : Int) ≤ (s.size : Int)) by omega), decide_eq_true (show (((i + 4 : Nat) : Int) ≤ (s.size : Int)) by omega), Bool.and_true, Bool.not_true, cond_false, cond_true, Int.le_refl, decide_true, spec_PutWord_eq, putWord_size]
  rw [ble_t (by rw [ByteArray.size_extract]; omega), cond_true, ble_t (by rw [ByteArray.size_append, ByteArray.size_extract, ByteArray.size_extract, putWord_size]; omega), cond_true]


/-- The low eight bits. -/
def low8 (n : Int) : Nat := (n % 256).toNat

theorem low8_lt (n : Int) : low8 n < 256 := by unfold low8; omega

theorem and_low (n : Int) (c : Nat) (hc : c < 256) : IntKind.wrap .i64 (((BitVec.ofInt 64 n &&& BitVec.ofInt 64 (c : Int)).toNat : Nat) : Int) = ((low8 n &&& c : Nat) : Int) := by
  have h1 : (BitVec.ofInt 64 n).toNat = (n % 18446744073709551616).toNat := by rw [BitVec.toNat_ofInt]; rfl
  have h2 : (n % 18446744073709551616).toNat &&& c = low8 n &&& c := by
    have e : low8 n = (n % 18446744073709551616).toNat % 256 := by unfold low8; omega
    rw [e]
    generalize (n % 18446744073709551616).toNat = a
    apply Nat.eq_of_testBit_eq
    intro i
    rw [Nat.testBit_and, Nat.testBit_and, show (256 : Nat) = 2 ^ 8 from rfl, Nat.testBit_mod_two_pow]
    by_cases hi : i < 8
    · rw [decide_eq_true hi, Bool.true_and]
    · have : c.testBit i = false := Nat.testBit_lt_two_pow (Nat.lt_of_lt_of_le hc (by
        calc (256 : Nat) = 2 ^ 8 := rfl
          _ ≤ 2 ^ i := Nat.pow_le_pow_right (by omega) (by omega)))
      rw [this, Bool.and_false, Bool.and_false]
  rw [BitVec.toNat_and, h1, ofInt_nat (show c < 2 ^ 64 by omega), h2]
  have : low8 n &&& c ≤ c := Nat.and_le_right
  rw [w64 (by omega) (by omega)]

/-- Whether an entry lets this kind of access. -/
def letsB (e : Nat) (acc : Int) (user : Bool) : Bool :=
  !((e &&& 1) == 0) && (!((e &&& (if acc == 2 then 4 else if acc == 3 then 8 else 2)) == 0) && (if user then !((e &&& 16) == 0) else (acc != 3 || (e &&& 16) == 0)))

theorem spec_l03May_eq (n acc : Int) (user : Bool) (k : Bool → Option R) : g_spec_l03May N n acc user k = k (!((low8 n &&& (if acc == 2 then 4 else if acc == 3 then 8 else 2)) == 0) && (if user then !((low8 n &&& 16) == 0) else (acc != 3 || (low8 n &&& 16) == 0))) := by
  have a4 : IntKind.wrap .i64 (((BitVec.ofInt 64 n &&& BitVec.ofInt 64 4).toNat : Nat) : Int) = ((low8 n &&& 4 : Nat) : Int) := and_low n 4 (by omega)
  have a8 : IntKind.wrap .i64 (((BitVec.ofInt 64 n &&& BitVec.ofInt 64 8).toNat : Nat) : Int) = ((low8 n &&& 8 : Nat) : Int) := and_low n 8 (by omega)
  have a2 : IntKind.wrap .i64 (((BitVec.ofInt 64 n &&& BitVec.ofInt 64 2).toNat : Nat) : Int) = ((low8 n &&& 2 : Nat) : Int) := and_low n 2 (by omega)
  have a16 : IntKind.wrap .i64 (((BitVec.ofInt 64 n &&& BitVec.ofInt 64 16).toNat : Nat) : Int) = ((low8 n &&& 16 : Nat) : Int) := and_low n 16 (by omega)
  have z : ∀ m : Nat, (((m : Nat) : Int) == 0) = (m == 0) := fun m => by rw [Bool.eq_iff_iff]; simp
  have z2 : ∀ m : Nat, (((m : Nat) : Int) != 0) = !(m == 0) := fun m => by rw [Bool.eq_iff_iff]; simp
  have n3 : (acc != 3) = !(acc == 3) := rfl
  unfold g_spec_l03May
  rw [n3]
  simp only [cond_somes, oK_some_eq]
  cases h2 : (acc == 2) <;> cases h3 : (acc == 3) <;> cases user <;>
    simp only [cond_true, cond_false, a4, a8, a2, a16, z, z2, Bool.not_true, Bool.not_false, Bool.false_or, Bool.true_or, if_true, if_false, Bool.false_eq_true, Bool.and_true]
  all_goals first
    | (cases (low8 n &&& 2 == 0) <;> rfl)
    | (cases (low8 n &&& 4 == 0) <;> rfl)
    | (cases (low8 n &&& 8 == 0) <;> rfl)

theorem low8_low8 (e : Int) : low8 ((low8 e : Nat) : Int) = low8 e := by unfold low8; omega

theorem want_k : ∀ m : Nat, m < 256 → ((m &&& 3 == 3) = (!(m &&& 1 == 0) && !(m &&& 2 == 0))) ∧ ((m &&& 5 == 5) = (!(m &&& 1 == 0) && !(m &&& 4 == 0))) ∧ ((m &&& 9 == 9) = (!(m &&& 1 == 0) && !(m &&& 8 == 0))) ∧
    ((m &&& 19 == 19) = (!(m &&& 1 == 0) && (!(m &&& 2 == 0) && !(m &&& 16 == 0)))) ∧ ((m &&& 21 == 21) = (!(m &&& 1 == 0) && (!(m &&& 4 == 0) && !(m &&& 16 == 0)))) ∧ ((m &&& 25 == 25) = (!(m &&& 1 == 0) && (!(m &&& 8 == 0) && !(m &&& 16 == 0)))) := by decide +kernel

theorem impl_ylets_eq (e acc : Int) (ha : acc = 1 ∨ acc = 2 ∨ acc = 3) (user : Bool) (k : Bool → Option R) : g_impl_ylets N ((low8 e : Nat) : Int) acc user k = k (letsB (low8 e) acc user) := by
  obtain ⟨w1, w2, w3, w4, w5, w6⟩ := want_k (low8 e) (low8_lt e)
  have a : ∀ c : Nat, c < 256 → IntKind.wrap .i64 (((BitVec.ofInt 64 ((low8 e : Nat) : Int) &&& BitVec.ofInt 64 (c : Int)).toNat : Nat) : Int) = ((low8 e &&& c : Nat) : Int) := fun c hc => by rw [and_low _ c hc, low8_low8]
  have z : ∀ m c : Nat, (((m : Nat) : Int) == ((c : Nat) : Int)) = (m == c) := fun m c => by rw [Bool.eq_iff_iff]; simp; omega
  have o1 : IntKind.wrap .i64 (((BitVec.ofInt 64 (IntKind.wrap .i64 (((BitVec.ofInt 64 0 ||| BitVec.ofInt 64 2).toNat : Nat) : Int)) ||| BitVec.ofInt 64 1).toNat : Nat) : Int) = ((3 : Nat) : Int) := by decide
  have o2 : IntKind.wrap .i64 (((BitVec.ofInt 64 (IntKind.wrap .i64 (((BitVec.ofInt 64 0 ||| BitVec.ofInt 64 4).toNat : Nat) : Int)) ||| BitVec.ofInt 64 1).toNat : Nat) : Int) = ((5 : Nat) : Int) := by decide
  have o3 : IntKind.wrap .i64 (((BitVec.ofInt 64 (IntKind.wrap .i64 (((BitVec.ofInt 64 0 ||| BitVec.ofInt 64 8).toNat : Nat) : Int)) ||| BitVec.ofInt 64 1).toNat : Nat) : Int) = ((9 : Nat) : Int) := by decide
  have o4 : IntKind.wrap .i64 (((BitVec.ofInt 64 (IntKind.wrap .i64 (((BitVec.ofInt 64 16 ||| BitVec.ofInt 64 2).toNat : Nat) : Int)) ||| BitVec.ofInt 64 1).toNat : Nat) : Int) = ((19 : Nat) : Int) := by decide
  have o5 : IntKind.wrap .i64 (((BitVec.ofInt 64 (IntKind.wrap .i64 (((BitVec.ofInt 64 16 ||| BitVec.ofInt 64 4).toNat : Nat) : Int)) ||| BitVec.ofInt 64 1).toNat : Nat) : Int) = ((21 : Nat) : Int) := by decide
  have o6 : IntKind.wrap .i64 (((BitVec.ofInt 64 (IntKind.wrap .i64 (((BitVec.ofInt 64 16 ||| BitVec.ofInt 64 8).toNat : Nat) : Int)) ||| BitVec.ofInt 64 1).toNat : Nat) : Int) = ((25 : Nat) : Int) := by decide
  have z16 : (IntKind.wrap .i64 (((BitVec.ofInt 64 ((low8 e : Nat) : Int) &&& BitVec.ofInt 64 16).toNat : Nat) : Int) == 0) = (low8 e &&& 16 == 0) := by rw [show (16 : Int) = ((16 : Nat) : Int) from rfl, a 16 (by omega)]; exact z _ 0
  have q1 : ((1 : Int) == 1) = true := rfl
  have q2 : ((2 : Int) == 1) = false := rfl
  have q3 : ((2 : Int) == 2) = true := rfl
  have q4 : ((3 : Int) == 1) = false := rfl
  have q5 : ((3 : Int) == 2) = false := rfl
  have q6 : ((3 : Int) == 3) = true := rfl
  have q7 : ((1 : Int) != 3) = true := rfl
  have q8 : ((2 : Int) != 3) = true := rfl
  have q9 : ((3 : Int) != 3) = false := rfl
  have q10 : ((1 : Int) == 2) = false := rfl
  have q11 : ((1 : Int) == 3) = false := rfl
  have q12 : ((2 : Int) == 3) = false := rfl
  unfold g_impl_ylets letsB
  rcases ha with rfl | rfl | rfl <;> cases user <;>
    simp only [cond_true, cond_false, oK_some_eq, cond_somes, q1, q2, q3, q4, q5, q6, q7, q8, q9, q10, q11, q12, o1, o2, o3, o4, o5, o6, a 3 (by omega), a 5 (by omega), a 9 (by omega), a 19 (by omega), a 21 (by omega), a 25 (by omega), z, z16, w1, w2, w3, w4, w5, w6, if_true, if_false, Bool.false_eq_true, Bool.true_or, Bool.false_or, Bool.and_true]
  all_goals first
    | rfl
    | (cases (low8 e &&& 1 == 0) <;> cases (low8 e &&& 2 == 0) <;> rfl)
    | (cases (low8 e &&& 1 == 0) <;> cases (low8 e &&& 4 == 0) <;> rfl)
    | (cases (low8 e &&& 1 == 0) <;> cases (low8 e &&& 8 == 0) <;> cases (low8 e &&& 16 == 0) <;> rfl)
    | (cases (low8 e &&& 1 == 0) <;> cases (low8 e &&& 2 == 0) <;> cases (low8 e &&& 16 == 0) <;> rfl)
    | (cases (low8 e &&& 1 == 0) <;> cases (low8 e &&& 4 == 0) <;> cases (low8 e &&& 16 == 0) <;> rfl)

structure Look where
  fault : Int
  pa : Int
  entryAt : Int
  old : Int
  entry : Int
  large : Bool
  r0 : Int
  r1 : Int
  many : Int

def wordN (s : ByteArray) (i : Nat) : Nat := (wordAt s i).toNat

theorem wordN_cast (s : ByteArray) (i : Nat) : wordAt s i = ((wordN s i : Nat) : Int) := by
  have := wordAt_bound s i
  unfold wordN
  omega

theorem wordN_lt (s : ByteArray) (i : Nat) : wordN s i < 4294967296 := by
  have := wordAt_bound s i
  unfold wordN
  omega

def putE (e : Nat) (acc : Int) : Nat := e ||| (if acc == 2 then 96 else 32)

/-- An entry leads on to another table. -/
def leadsOn (e : Nat) : Bool := !((low8 e &&& 1) == 0) && ((low8 e &&& 14) == 0)

/-- The place of an entry. -/
@[irreducible] def ent (t i : Nat) : Nat := t * 256 + 4 * i

theorem ent_eq (t i : Nat) : ent t i = t * 256 + 4 * i := by unfold ent; rfl

def look (s : ByteArray) (root va : Nat) (acc : Int) (user : Bool) : Look :=
  let fr := s.size / 256
  let a1 := ent root (va / 8192)
  let e := wordN s a1
  let a2 := ent (e / 256) (va / 256 % 32)
  let e2 := wordN s a2
  cond (decide (fr ≤ root)) ⟨2, 0, 0, 0, 0, false, 0, 0, 0⟩
    (cond (leadsOn e)
      (cond (decide (fr ≤ e / 256)) ⟨2, 0, a1, 0, 0, false, root, 0, 1⟩
        (cond (!letsB (low8 e2) acc user) ⟨1, 0, a2, 0, 0, false, root, (e / 256 : Nat), 2⟩
          (cond (decide (fr ≤ e2 / 256)) ⟨2, 0, a2, 0, 0, false, root, (e / 256 : Nat), 2⟩
            ⟨0, (e2 / 256 * 256 + va % 256 : Nat), a2, e2, putE e2 acc, false, root, (e / 256 : Nat), 2⟩)))
      (cond (!(e / 256 % 32 == 0)) ⟨1, 0, a1, 0, 0, false, root, 0, 1⟩
        (cond (!letsB (low8 e) acc user) ⟨1, 0, a1, 0, 0, false, root, 0, 1⟩
          (cond (decide (fr ≤ e / 256 + va / 256 % 32)) ⟨2, 0, a1, 0, 0, false, root, 0, 1⟩
            ⟨0, ((e / 256 + va / 256 % 32) * 256 + va % 256 : Nat), a1, e, putE e acc, true, root, 0, 1⟩))))

theorem or_nat {a b : Nat} (ha : a < 2 ^ 62) (hb : b < 2 ^ 62) : IntKind.wrap .i64 (((BitVec.ofInt 64 (a : Int) ||| BitVec.ofInt 64 (b : Int)).toNat : Nat) : Int) = ((a ||| b : Nat) : Int) := by
  rw [BitVec.toNat_or, ofInt_nat (by omega), ofInt_nat (by omega)]
  have := Nat.or_lt_two_pow ha hb
  rw [w64 (by omega) (by omega)]

theorem and31 (n : Int) : IntKind.wrap .i64 (((BitVec.ofInt 64 n &&& BitVec.ofInt 64 31).toNat : Nat) : Int) = n % 32 := and_mask n 5 (by omega)

theorem impl_yputs_eq (acc : Int) (k : Int → Option R) : g_impl_yputs N acc k = k (((if acc == 2 then 96 else 32 : Nat)) : Int) := by
  unfold g_impl_yputs
  cases h : acc == 2 <;> rfl

theorem impl_yframes_eq (s : ByteArray) (b : Bool) (hs : s.size ≤ 2 ^ 60) (k : Int → Option R) : g_impl_yframes_w N b (ofBytes s) k = k ((s.size / 256 : Nat) : Int) := by
  unfold g_impl_yframes_w
  rw [ofBytes_length, Int.tdiv_eq_ediv_of_nonneg (by omega), w64 (by omega) (by omega)]
  rfl

theorem low8_255 (e : Nat) : IntKind.wrap .i64 (((BitVec.ofInt 64 (e : Int) &&& BitVec.ofInt 64 255).toNat : Nat) : Int) = ((low8 (e : Int) : Nat) : Int) := by
  rw [and255]; unfold low8; omega

theorem leads_eq (e : Nat) : cond (IntKind.wrap .i64 (((BitVec.ofInt 64 (e : Int) &&& BitVec.ofInt 64 1).toNat : Nat) : Int) != 0) (some (IntKind.wrap .i64 (((BitVec.ofInt 64 (e : Int) &&& BitVec.ofInt 64 14).toNat : Nat) : Int) == 0)) (some false) = some (leadsOn e) := by
  have a1 : IntKind.wrap .i64 (((BitVec.ofInt 64 (e : Int) &&& BitVec.ofInt 64 1).toNat : Nat) : Int) = ((low8 e &&& 1 : Nat) : Int) := and_low _ 1 (by omega)
  have a14 : IntKind.wrap .i64 (((BitVec.ofInt 64 (e : Int) &&& BitVec.ofInt 64 14).toNat : Nat) : Int) = ((low8 e &&& 14 : Nat) : Int) := and_low _ 14 (by omega)
  have z : ∀ m : Nat, (((m : Nat) : Int) == 0) = (m == 0) := fun m => by rw [Bool.eq_iff_iff]; simp
  have z2 : ∀ m : Nat, (((m : Nat) : Int) != 0) = !(m == 0) := fun m => by rw [Bool.eq_iff_iff]; simp
  unfold leadsOn
  rw [a1, a14, z, z2]
  cases (low8 e &&& 1 == 0) <;> rfl

def Look.out (w : Look) (k : Int → Int → Int → Int → Int → Bool → Int → Int → Int → Option R) : Option R := k w.fault w.pa w.entryAt w.old w.entry w.large w.r0 w.r1 w.many

theorem impl_ylookup_eq {s : ByteArray} {root va : Nat} {acc : Int} {user b : Bool} (hs : s.size ≤ 65536) (h256 : s.size % 256 = 0) (hr : root ≤ 255) (hv : va < 262144) (ha : acc = 1 ∨ acc = 2 ∨ acc = 3) (k : Int → Int → Int → Int → Int → Bool → Int → Int → Int → Option R) :
    g_impl_ylookup_w N b root va acc user (ofBytes s) k = (look s root va acc user).out k := by
  unfold g_impl_ylookup_w look
  have e1 : IntKind.wrap .i64 (IntKind.wrap .i64 ((root : Int) * 256) + IntKind.wrap .i64 (4 * ((va : Int) / 8192 % 32))) = ((ent root (va / 8192) : Nat) : Int) := by
    rw [ent_eq, w64 (n := (root : Int) * 256) (by omega) (by omega), w64 (n := 4 * ((va : Int) / 8192 % 32)) (by omega) (by omega), w64 (by omega) (by omega)]; omega
  have hy : ∀ k : Int → Option R, g_impl_yframes_w N b (ofBytes s) k = k ((s.size / 256 : Nat) : Int) := impl_yframes_eq N s b (by omega)
  simp only [fdiv_lit _ (show (0 : Int) ≤ 256 by omega), fdiv_lit _ (show (0 : Int) ≤ 8192 by omega)]
  simp only [and31]
  simp only [e1]
  rw [hy]
  by_cases h0 : s.size / 256 ≤ root
  · rw [decide_eq_true (show ((root : Int) ≥ ((s.size / 256 : Nat) : Int)) by omega), decide_eq_true h0]; rfl
  rw [decide_eq_false (show ¬ ((root : Int) ≥ ((s.size / 256 : Nat) : Int)) by omega), decide_eq_false h0]
  rw [cond_false]
  rw [impl_ygetWord_eq N (show ent root (va / 8192) + 4 ≤ s.size by rw [ent_eq]; omega) (by omega), wordN_cast]
  have hlt := wordN_lt s (ent root (va / 8192))
  generalize wordN s (ent root (va / 8192)) = e at hlt ⊢
  rw [leads_eq, oK_some_eq]
  have ed : (e : Int) / 256 = ((e / 256 : Nat) : Int) := by omega
  rw [ed]
  cases hle : leadsOn e with
  | true =>
    rw [cond_true, hy]
    by_cases h1 : s.size / 256 ≤ e / 256
    · rw [decide_eq_true (show (((e / 256 : Nat) : Int) ≥ ((s.size / 256 : Nat) : Int)) by omega), decide_eq_true h1]; rfl
    rw [decide_eq_false (show ¬ (((e / 256 : Nat) : Int) ≥ ((s.size / 256 : Nat) : Int)) by omega), decide_eq_false h1]
    rw [cond_false]
    have e2 : IntKind.wrap .i64 (IntKind.wrap .i64 (((e / 256 : Nat) : Int) * 256) + IntKind.wrap .i64 (4 * ((va : Int) / 256 % 32))) = ((ent (e / 256) (va / 256 % 32) : Nat) : Int) := by
      rw [ent_eq, w64 (n := ((e / 256 : Nat) : Int) * 256) (by omega) (by omega), w64 (n := 4 * ((va : Int) / 256 % 32)) (by omega) (by omega), w64 (by omega) (by omega)]; omega
    rw [e2, impl_ygetWord_eq N (show ent (e / 256) (va / 256 % 32) + 4 ≤ s.size by rw [ent_eq]; omega) (by omega), wordN_cast]
    have hlt2 := wordN_lt s (ent (e / 256) (va / 256 % 32))
    generalize wordN s (ent (e / 256) (va / 256 % 32)) = e2 at hlt2 ⊢
    rw [low8_255, impl_ylets_eq N _ _ ha]
    cases hle2 : letsB (low8 e2) acc user with
    | false => rfl
    | true =>
      rw [Bool.not_true, cond_false, hy]
      rw [show (e2 : Int) / 256 = ((e2 / 256 : Nat) : Int) by omega]
      by_cases h2 : s.size / 256 ≤ e2 / 256
      · rw [decide_eq_true (show (((e2 / 256 : Nat) : Int) ≥ ((s.size / 256 : Nat) : Int)) by omega), decide_eq_true h2]; rfl
      rw [decide_eq_false (show ¬ (((e2 / 256 : Nat) : Int) ≥ ((s.size / 256 : Nat) : Int)) by omega), decide_eq_false h2, impl_yputs_eq, or_nat (by omega) (by split <;> omega), and255,
        w64 (n := ((e2 / 256 : Nat) : Int) * 256) (by omega) (by omega), w64 (n := ((e2 / 256 : Nat) : Int) * 256 + (va : Int) % 256) (by omega) (by omega)]
      rw [show ((e2 / 256 : Nat) : Int) * 256 + (va : Int) % 256 = ((e2 / 256 * 256 + va % 256 : Nat) : Int) by omega]
      rw [cond_false]
      rfl
  | false =>
    rw [cond_false]
    have hm : (Int.tmod ((e / 256 : Nat) : Int) 32 != 0) = !(e / 256 % 32 == 0) := by
      rw [Int.tmod_eq_emod_of_nonneg (by omega), Bool.eq_iff_iff]; simp; omega
    rw [hm]
    cases hle3 : e / 256 % 32 == 0 with
    | false => rfl
    | true =>
      rw [Bool.not_true, cond_false, cond_false, low8_255, impl_ylets_eq N _ _ ha]
      cases hle2 : letsB (low8 e) acc user with
      | false => rfl
      | true =>
        rw [Bool.not_true, cond_false, cond_false, hy, w64 (n := ((e / 256 : Nat) : Int) + (va : Int) / 256 % 32) (by omega) (by omega), show ((e / 256 : Nat) : Int) + (va : Int) / 256 % 32 = ((e / 256 + va / 256 % 32 : Nat) : Int) by omega]
        by_cases h2 : s.size / 256 ≤ e / 256 + va / 256 % 32
        · rw [decide_eq_true (show (((e / 256 + va / 256 % 32 : Nat) : Int) ≥ ((s.size / 256 : Nat) : Int)) by omega), decide_eq_true h2]; rfl
        rw [decide_eq_false (show ¬ (((e / 256 + va / 256 % 32 : Nat) : Int) ≥ ((s.size / 256 : Nat) : Int)) by omega), decide_eq_false h2, impl_yputs_eq, or_nat (by omega) (by split <;> omega), and255,
          w64 (n := ((e / 256 + va / 256 % 32 : Nat) : Int) * 256) (by omega) (by omega), w64 (n := ((e / 256 + va / 256 % 32 : Nat) : Int) * 256 + (va : Int) % 256) (by omega) (by omega), show ((e / 256 + va / 256 % 32 : Nat) : Int) * 256 + (va : Int) % 256 = (((e / 256 + va / 256 % 32) * 256 + va % 256 : Nat) : Int) by omega]
        rw [cond_false]
        rfl


theorem bits14 : ∀ m : Nat, m < 256 → ((m &&& 14 == 0) = true → (m &&& 2 == 0) = true ∧ (m &&& 4 == 0) = true ∧ (m &&& 8 == 0) = true) := by decide +kernel

/-- What the reference asks of an entry's bits. -/
theorem mayB (e : Nat) (acc : Int) (user : Bool) : ((low8 e &&& 1 == 0) || ((low8 e &&& 14 == 0) || !(!((low8 e &&& (if acc == 2 then 4 else if acc == 3 then 8 else 2)) == 0) && (if user then !((low8 e &&& 16) == 0) else (acc != 3 || (low8 e &&& 16) == 0))))) = !letsB (low8 e) acc user := by
  have h := bits14 (low8 e) (low8_lt e)
  unfold letsB
  cases h1 : (low8 e &&& 1 == 0)
  · cases h14 : (low8 e &&& 14 == 0)
    · rfl
    · obtain ⟨h2, h4, h8⟩ := h h14
      have : ((low8 e &&& (if acc == 2 then 4 else if acc == 3 then 8 else 2)) == 0) = true := by
        split
        · exact h4
        · split
          · exact h8
          · exact h2
      rw [this]; rfl
  · rfl

def framesOf (w : Look) : List Int := cond (w.many == 0) [] (cond (w.many == 1) [w.r0] [w.r0, w.r1])

theorem spec_l03Acc_eq {acc : Int} (ha : acc = 1 ∨ acc = 2 ∨ acc = 3) (k : Bool → Option R) : g_spec_l03Acc N acc k = k true := by
  rcases ha with rfl | rfl | rfl <;> rfl

theorem spec_l03Entry_no {s : ByteArray} {t i : Nat} (ht : t < 2 ^ 40) (h : s.size / 256 ≤ t) (k : Int → Bool → Option R) : g_spec_l03Entry N s t i k = k 0 false := by
  unfold g_spec_l03Entry
  rw [w64 (n := (t : Int) + 1) (by omega) (by omega), w64 (n := ((t : Int) + 1) * 256) (by omega) (by omega), decide_eq_true (show ((t : Int) + 1) * 256 > (s.size : Int) by omega)]
  rfl

theorem spec_l03Entry_yes {s : ByteArray} {t i : Nat} (hs : s.size ≤ 65536) (hi : i < 32) (h : ¬ s.size / 256 ≤ t) (k : Int → Bool → Option R) : g_spec_l03Entry N s t i k = k ((wordN s (ent t i) : Nat) : Int) true := by
  unfold g_spec_l03Entry
  rw [w64 (n := (t : Int) + 1) (by omega) (by omega), w64 (n := ((t : Int) + 1) * 256) (by omega) (by omega), decide_eq_false (show ¬ ((t : Int) + 1) * 256 > (s.size : Int) by omega), cond_false, w64 (n := (t : Int) * 256) (by omega) (by omega), w64 (n := 4 * (i : Int)) (by omega) (by omega), w64 (n := (t : Int) * 256 + 4 * (i : Int)) (by omega) (by omega), show (t : Int) * 256 + 4 * (i : Int) = ((ent t i : Nat) : Int) by rw [ent_eq]; omega,
    spec_l01Word_eq N (show ent t i + 4 ≤ s.size by rw [ent_eq]; omega) (by omega), wordN_cast]

/-- The flags put into an entry, in the reference's way. -/
theorem putE_spec {e : Nat} (he : e < 4294967296) (acc : Int) : cond (acc == 2) (some (IntKind.wrap .i64 (((BitVec.ofInt 64 (IntKind.wrap .i64 (((BitVec.ofInt 64 (e : Int) ||| BitVec.ofInt 64 32).toNat : Nat) : Int)) ||| BitVec.ofInt 64 64).toNat : Nat) : Int))) (some (IntKind.wrap .i64 (((BitVec.ofInt 64 (e : Int) ||| BitVec.ofInt 64 32).toNat : Nat) : Int))) = some ((putE e acc : Nat) : Int) := by
  have h32 : IntKind.wrap .i64 (((BitVec.ofInt 64 (e : Int) ||| BitVec.ofInt 64 32).toNat : Nat) : Int) = ((e ||| 32 : Nat) : Int) := or_nat (b := 32) (by omega) (by omega)
  have hb : e ||| 32 < 2 ^ 32 := Nat.or_lt_two_pow (by omega) (by omega)
  have h96 : IntKind.wrap .i64 (((BitVec.ofInt 64 ((e ||| 32 : Nat) : Int) ||| BitVec.ofInt 64 64).toNat : Nat) : Int) = ((e ||| 32 ||| 64 : Nat) : Int) := or_nat (b := 64) (by omega) (by omega)
  rw [h32, h96]
  unfold putE
  cases h : acc == 2
  · rfl
  · rw [Nat.or_assoc]; rfl

theorem may_eq (e : Nat) (acc : Int) (user : Bool) : cond (IntKind.wrap .i64 (((BitVec.ofInt 64 (e : Int) &&& BitVec.ofInt 64 1).toNat : Nat) : Int) == 0) (some true) (cond (IntKind.wrap .i64 (((BitVec.ofInt 64 (e : Int) &&& BitVec.ofInt 64 14).toNat : Nat) : Int) == 0) (some true) (g_spec_l03May N e acc user fun b => some (!b))) = some (!letsB (low8 e) acc user) := by
  have a1 : IntKind.wrap .i64 (((BitVec.ofInt 64 (e : Int) &&& BitVec.ofInt 64 1).toNat : Nat) : Int) = ((low8 e &&& 1 : Nat) : Int) := and_low _ 1 (by omega)
  have a14 : IntKind.wrap .i64 (((BitVec.ofInt 64 (e : Int) &&& BitVec.ofInt 64 14).toNat : Nat) : Int) = ((low8 e &&& 14 : Nat) : Int) := and_low _ 14 (by omega)
  have z : ∀ m : Nat, (((m : Nat) : Int) == 0) = (m == 0) := fun m => by rw [Bool.eq_iff_iff]; simp
  rw [a1, a14, z, z, spec_l03May_eq, ← mayB]
  cases (low8 e &&& 1 == 0) <;> cases (low8 e &&& 14 == 0) <;> rfl

theorem may_eq32 (e : Nat) (acc : Int) (user b : Bool) : cond (IntKind.wrap .i64 (((BitVec.ofInt 64 (e : Int) &&& BitVec.ofInt 64 1).toNat : Nat) : Int) == 0) (some true) (cond (IntKind.wrap .i64 (((BitVec.ofInt 64 (e : Int) &&& BitVec.ofInt 64 14).toNat : Nat) : Int) == 0) (some true) (cond b (some true) (g_spec_l03May N e acc user fun b => some (!b)))) = some (b || !letsB (low8 e) acc user) := by
  have h := may_eq N e acc user
  cases b
  · exact h
  · cases (IntKind.wrap .i64 (((BitVec.ofInt 64 (e : Int) &&& BitVec.ofInt 64 1).toNat : Nat) : Int) == 0) <;> cases (IntKind.wrap .i64 (((BitVec.ofInt 64 (e : Int) &&& BitVec.ofInt 64 14).toNat : Nat) : Int) == 0) <;> rfl


theorem spec_Walk_eq {s : ByteArray} {root va : Nat} {acc : Int} {user : Bool} (hm : memOk s = true) (hs : s.size ≤ 65536) (h256 : s.size % 256 = 0) (hr : root ≤ 255) (hv : va < 262144) (ha : acc = 1 ∨ acc = 2 ∨ acc = 3) (k : Int → Int → Int → Bool → Bool → ByteArray → List Int → Option R) :
    g_spec_Walk N s root va acc user k = k (look s root va acc user).fault (look s root va acc user).pa (look s root va acc user).entry (look s root va acc user).large false (cond ((look s root va acc user).fault == 0) (setWord s (look s root va acc user).entryAt.toNat (look s root va acc user).entry) s) (framesOf (look s root va acc user)) := by
  unfold g_spec_Walk
  rw [spec_MemFault_eq, hm, cond_true, show ((0 : Int) != 0) = false from rfl, cond_false, decide_eq_false (show ¬ (root : Int) < 0 by omega), cond_false, decide_eq_false (show ¬ (root : Int) > 255 by omega), cond_false, decide_eq_false (show ¬ (va : Int) < 0 by omega), cond_false, decide_eq_false (show ¬ (va : Int) ≥ 262144 by omega), cond_false, spec_l03Acc_eq N ha, oK_some_eq, Bool.not_true, cond_false]
  have f256 : ∀ n : Int, Int.fdiv n 256 = n / 256 := fun n => fdiv_lit n (by omega)
  have t32 : ∀ n : Nat, Int.tmod ((n : Nat) : Int) 32 = ((n % 32 : Nat) : Int) := fun n => by rw [Int.tmod_eq_emod_of_nonneg (by omega)]; omega
  have t256 : ∀ n : Nat, Int.tmod ((n : Nat) : Int) 256 = ((n % 256 : Nat) : Int) := fun n => by rw [Int.tmod_eq_emod_of_nonneg (by omega)]; omega
  have d256 : ∀ n : Nat, ((n : Nat) : Int) / 256 = ((n / 256 : Nat) : Int) := fun n => by omega
  rw [fdiv_lit _ (show (0 : Int) ≤ 8192 by omega), show (va : Int) / 8192 = ((va / 8192 : Nat) : Int) by omega]
  unfold look
  dsimp only
  by_cases h0 : s.size / 256 ≤ root
  · rw [spec_l03Entry_no N (by omega) h0, decide_eq_true h0]; rfl
  rw [spec_l03Entry_yes N hs (by omega) h0, decide_eq_false h0]
  have hlt := wordN_lt s (ent root (va / 8192))
  obtain ⟨e, hE⟩ : ∃ e, wordN s (ent root (va / 8192)) = e := ⟨_, rfl⟩
  rw [hE] at hlt
  rw [hE]
  rw [Bool.not_true, cond_false, leads_eq, oK_some_eq]
  cases hle : leadsOn e with
  | true =>
    rw [cond_true, cond_true, f256, d256, f256, d256, t32]
    by_cases h1 : s.size / 256 ≤ e / 256
    · rw [spec_l03Entry_no N (by omega) h1, decide_eq_true h1]; rfl
    rw [spec_l03Entry_yes N hs (by omega) h1, decide_eq_false h1]
    have hlt2 := wordN_lt s (ent (e / 256) (va / 256 % 32))
    obtain ⟨e2, hE2⟩ : ∃ e2, wordN s (ent (e / 256) (va / 256 % 32)) = e2 := ⟨_, rfl⟩
    rw [hE2] at hlt2
    rw [hE2, Bool.not_true, cond_false, cond_false, may_eq, oK_some_eq]
    cases hl2 : letsB (low8 e2) acc user with
    | false => rfl
    | true =>
      rw [Bool.not_true, cond_false, cond_false, oK_some_eq, f256, d256]
      by_cases h2 : s.size / 256 ≤ e2 / 256
      · rw [w64 (n := ((e2 / 256 : Nat) : Int) + 1) (by omega) (by omega), w64 (n := (((e2 / 256 : Nat) : Int) + 1) * 256) (by omega) (by omega), decide_eq_true (show (((e2 / 256 : Nat) : Int) + 1) * 256 > (s.size : Int) by omega), decide_eq_true h2]; rfl
      rw [w64 (n := ((e2 / 256 : Nat) : Int) + 1) (by omega) (by omega), w64 (n := (((e2 / 256 : Nat) : Int) + 1) * 256) (by omega) (by omega), decide_eq_false (show ¬ (((e2 / 256 : Nat) : Int) + 1) * 256 > (s.size : Int) by omega), decide_eq_false h2, cond_false, cond_false, putE_spec hlt2, oK_some_eq, t256,
        w64 (n := ((e / 256 : Nat) : Int) * 256) (by omega) (by omega), w64 (n := 4 * ((va / 256 % 32 : Nat) : Int)) (by omega) (by omega), w64 (n := ((e / 256 : Nat) : Int) * 256 + 4 * ((va / 256 % 32 : Nat) : Int)) (by omega) (by omega), show ((e / 256 : Nat) : Int) * 256 + 4 * ((va / 256 % 32 : Nat) : Int) = ((ent (e / 256) (va / 256 % 32) : Nat) : Int) by rw [ent_eq]; omega,
        spec_SetWord_eq N (show ent (e / 256) (va / 256 % 32) + 4 ≤ s.size by rw [ent_eq]; omega) hs,
        w64 (n := ((e2 / 256 : Nat) : Int) * 256) (by omega) (by omega), w64 (n := ((e2 / 256 : Nat) : Int) * 256 + ((va % 256 : Nat) : Int)) (by omega) (by omega), show ((e2 / 256 : Nat) : Int) * 256 + ((va % 256 : Nat) : Int) = ((e2 / 256 * 256 + va % 256 : Nat) : Int) by omega]
      rfl
  | false =>
    have hm32 : (Int.tmod ((e / 256 : Nat) : Int) 32 != 0) = !(e / 256 % 32 == 0) := by
      rw [t32, Bool.eq_iff_iff]; simp; omega
    rw [cond_false, cond_false, f256, d256, hm32, may_eq32, oK_some_eq]
    cases hl3 : e / 256 % 32 == 0 with
    | false => rfl
    | true =>
      rw [Bool.not_true, Bool.false_or, cond_false]
      cases hl2 : letsB (low8 e) acc user with
      | false => rfl
      | true =>
        rw [Bool.not_true, cond_false, cond_false, f256, d256, t32, w64 (n := ((e / 256 : Nat) : Int) + ((va / 256 % 32 : Nat) : Int)) (by omega) (by omega), oK_some_eq, show ((e / 256 : Nat) : Int) + ((va / 256 % 32 : Nat) : Int) = ((e / 256 + va / 256 % 32 : Nat) : Int) by omega]
        by_cases h2 : s.size / 256 ≤ e / 256 + va / 256 % 32
        · rw [w64 (n := ((e / 256 + va / 256 % 32 : Nat) : Int) + 1) (by omega) (by omega), w64 (n := (((e / 256 + va / 256 % 32 : Nat) : Int) + 1) * 256) (by omega) (by omega), decide_eq_true (show (((e / 256 + va / 256 % 32 : Nat) : Int) + 1) * 256 > (s.size : Int) by omega), decide_eq_true h2]; rfl
        rw [w64 (n := ((e / 256 + va / 256 % 32 : Nat) : Int) + 1) (by omega) (by omega), w64 (n := (((e / 256 + va / 256 % 32 : Nat) : Int) + 1) * 256) (by omega) (by omega), decide_eq_false (show ¬ (((e / 256 + va / 256 % 32 : Nat) : Int) + 1) * 256 > (s.size : Int) by omega), decide_eq_false h2, cond_false, cond_false, putE_spec hlt, oK_some_eq, t256,
          w64 (n := (root : Int) * 256) (by omega) (by omega), w64 (n := 4 * ((va / 8192 : Nat) : Int)) (by omega) (by omega), w64 (n := (root : Int) * 256 + 4 * ((va / 8192 : Nat) : Int)) (by omega) (by omega), show (root : Int) * 256 + 4 * ((va / 8192 : Nat) : Int) = ((ent root (va / 8192) : Nat) : Int) by rw [ent_eq]; omega,
          spec_SetWord_eq N (show ent root (va / 8192) + 4 ≤ s.size by rw [ent_eq]; omega) hs,
          w64 (n := ((e / 256 + va / 256 % 32 : Nat) : Int) * 256) (by omega) (by omega), w64 (n := ((e / 256 + va / 256 % 32 : Nat) : Int) * 256 + ((va % 256 : Nat) : Int)) (by omega) (by omega), show ((e / 256 + va / 256 % 32 : Nat) : Int) * 256 + ((va % 256 : Nat) : Int) = (((e / 256 + va / 256 % 32) * 256 + va % 256 : Nat) : Int) by omega]
        rfl


theorem look_facts (s : ByteArray) {root va : Nat} (acc : Int) (user : Bool) (hv : va < 262144) :
    ((look s root va acc user).many = 0 ∨ (look s root va acc user).many = 1 ∨ (look s root va acc user).many = 2) ∧
    ((look s root va acc user).fault = 0 → ∃ f t i : Nat, f < s.size / 256 ∧ t < s.size / 256 ∧ i < 32 ∧ (look s root va acc user).pa = ((f * 256 + va % 256 : Nat) : Int) ∧ (look s root va acc user).entryAt = ((ent t i : Nat) : Int)) := by
  unfold look
  dsimp only
  by_cases h0 : s.size / 256 ≤ root
  · rw [decide_eq_true h0]
    exact ⟨.inl rfl, fun h => absurd (show (2 : Int) = 0 from h) (by decide)⟩
  rw [decide_eq_false h0, cond_false]
  obtain ⟨e, hE⟩ : ∃ e, wordN s (ent root (va / 8192)) = e := ⟨_, rfl⟩
  rw [hE]
  cases leadsOn e with
  | true =>
    rw [cond_true]
    by_cases h1 : s.size / 256 ≤ e / 256
    · rw [decide_eq_true h1]
      exact ⟨.inr (.inl rfl), fun h => absurd (show (2 : Int) = 0 from h) (by decide)⟩
    rw [decide_eq_false h1, cond_false]
    obtain ⟨e2, hE2⟩ : ∃ e2, wordN s (ent (e / 256) (va / 256 % 32)) = e2 := ⟨_, rfl⟩
    rw [hE2]
    cases letsB (low8 e2) acc user with
    | false => exact ⟨.inr (.inr rfl), fun h => absurd (show (1 : Int) = 0 from h) (by decide)⟩
    | true =>
      rw [Bool.not_true, cond_false]
      by_cases h2 : s.size / 256 ≤ e2 / 256
      · rw [decide_eq_true h2]
        exact ⟨.inr (.inr rfl), fun h => absurd (show (2 : Int) = 0 from h) (by decide)⟩
      rw [decide_eq_false h2, cond_false]
      exact ⟨.inr (.inr rfl), fun _ => ⟨e2 / 256, e / 256, va / 256 % 32, by omega, by omega, by omega, rfl, rfl⟩⟩
  | false =>
    rw [cond_false]
    cases e / 256 % 32 == 0 with
    | false => exact ⟨.inr (.inl rfl), fun h => absurd (show (1 : Int) = 0 from h) (by decide)⟩
    | true =>
      rw [Bool.not_true, cond_false]
      cases letsB (low8 e) acc user with
      | false => exact ⟨.inr (.inl rfl), fun h => absurd (show (1 : Int) = 0 from h) (by decide)⟩
      | true =>
        rw [Bool.not_true, cond_false]
        by_cases h2 : s.size / 256 ≤ e / 256 + va / 256 % 32
        · rw [decide_eq_true h2]
          exact ⟨.inr (.inl rfl), fun h => absurd (show (2 : Int) = 0 from h) (by decide)⟩
        rw [decide_eq_false h2, cond_false]
        exact ⟨.inr (.inl rfl), fun _ => ⟨e / 256 + va / 256 % 32, root, va / 8192, by omega, by omega, by omega, rfl, rfl⟩⟩

theorem rng3 {a b c : Nat} (h1 : a ≤ b) (h2 : b ≤ c) : ((decide ((0 : Int) ≤ (a : Int)) && decide ((a : Int) ≤ (b : Int))) && decide ((b : Int) ≤ (c : Int))) = true := by
  rw [decide_eq_true (show (0 : Int) ≤ (a : Int) by omega), decide_eq_true (show (a : Int) ≤ (b : Int) by omega), decide_eq_true (show (b : Int) ≤ (c : Int) by omega)]; rfl

theorem bt_extract {s : ByteArray} {a b i : Nat} (h : a + i < b) : bt (s.extract a b) i = bt s (a + i) := by
  unfold bt
  rw [ByteArray.data_extract, Array.toList_extract, List.extract_eq_drop_take, List.getD_eq_getElem?_getD, List.getD_eq_getElem?_getD, List.getElem?_take_of_lt (by omega), List.getElem?_drop]

theorem bt_append_left {s t : ByteArray} {i : Nat} (h : i < s.size) : bt (s ++ t) i = bt s i := by
  have h' : i < s.data.toList.length := by rw [Array.length_toList]; exact h
  unfold bt
  rw [ByteArray.data_append, Array.toList_append, List.getD_eq_getElem?_getD, List.getD_eq_getElem?_getD, List.getElem?_append_left h']

theorem bt_append_right {s t : ByteArray} (i : Nat) : bt (s ++ t) (s.size + i) = bt t i := by
  have h' : s.size = s.data.toList.length := by rw [Array.length_toList]; rfl
  unfold bt
  rw [ByteArray.data_append, Array.toList_append, List.getD_eq_getElem?_getD, List.getD_eq_getElem?_getD, List.getElem?_append_right (by omega), h', Nat.add_sub_cancel_left]

theorem bytes_ext {s t : ByteArray} (h : s.size = t.size) (hb : ∀ i, i < s.size → bt s i = bt t i) : s = t := by
  have hs : s.size = s.data.toList.length := by rw [Array.length_toList]; rfl
  have ht : t.size = t.data.toList.length := by rw [Array.length_toList]; rfl
  have : s.data.toList = t.data.toList := by
    apply List.ext_getElem (by omega)
    intro i h1 h2
    have := hb i (by omega)
    unfold bt at this
    rw [List.getD_eq_getElem?_getD, List.getD_eq_getElem?_getD, List.getElem?_eq_getElem h1, List.getElem?_eq_getElem h2] at this
    simp only [Option.getD_some] at this
    exact UInt8.toNat_inj.1 (by omega)
  apply ByteArray.ext
  exact Array.ext' this

theorem ybig_eq {t : ByteArray} (hN : 2 ^ 40 < N) (k : Bool → Option R) : g_impl_ybig_w N false [t] k = k (decide ((t.size : Int) > 65536)) := by
  obtain ⟨M, rfl⟩ : ∃ M, N = M + 2 := ⟨N - 2, by omega⟩
  unfold g_impl_ybig_w c_impl_ybig_w_0
  have hx : nth [t] 0 = some t := rfl
  show cond (decide ((t.size : Int) > 65536)) (k true) (k false) = _
  cases decide ((t.size : Int) > 65536) <;> rfl

theorem toBytes_seg (s : ByteArray) (p m : Nat) : toBytes (seg (ofBytes s) p m) = s.extract p (p + m) := by
  have h := ofBytes_extract s p (p + m)
  have h2 : seg (ofBytes s) p m = ofBytes (s.extract p (p + m)) := by
    rw [h]; unfold seg
    rw [List.drop_take, Nat.add_sub_cancel_left]
  rw [h2, toBytes_ofBytes]

theorem toBytes_all (s : ByteArray) : toBytes (seg (ofBytes s) 0 (ofBytes s).length) = s := by rw [seg_all, toBytes_ofBytes]

theorem bt_ge {s : ByteArray} {i : Nat} (h : s.size ≤ i) : bt s i = 0 := by
  unfold bt
  have h : s.data.toList.length ≤ i := by simpa using h
  rw [List.getD_eq_getElem?_getD, List.getElem?_eq_none h]; rfl

theorem bt_putWord (v : Int) : bt (putWord v) 0 = v % 256 ∧ bt (putWord v) 1 = v / 256 % 256 ∧ bt (putWord v) 2 = v / 65536 % 256 ∧ bt (putWord v) 3 = v / 16777216 % 256 := by
  have h := ofBytes_putWord v
  have n0 := nth_ofBytes (s := putWord v) (i := 0) (by rw [putWord_size]; omega)
  have n1 := nth_ofBytes (s := putWord v) (i := 1) (by rw [putWord_size]; omega)
  have n2 := nth_ofBytes (s := putWord v) (i := 2) (by rw [putWord_size]; omega)
  have n3 := nth_ofBytes (s := putWord v) (i := 3) (by rw [putWord_size]; omega)
  rw [h] at n0 n1 n2 n3
  exact ⟨(Option.some.inj n0).symm, (Option.some.inj n1).symm, (Option.some.inj n2).symm, (Option.some.inj n3).symm⟩

theorem bt_set_in {s : ByteArray} {i k : Nat} (h : i + 4 ≤ s.size) (hk : k < 4) (v : Int) : bt (setWord s i v) (i + k) = bt (putWord v) k := by
  unfold setWord
  have hz : (s.extract 0 i).size = i := by rw [ByteArray.size_extract]; omega
  rw [bt_append_left (by rw [ByteArray.size_append, hz, putWord_size]; omega)]
  have := bt_append_right (s := s.extract 0 i) (t := putWord v) k
  rw [hz] at this
  exact this

theorem bt_set_out {s : ByteArray} {i j : Nat} (h : i + 4 ≤ s.size) (hj : j < i ∨ i + 4 ≤ j) (v : Int) : bt (setWord s i v) j = bt s j := by
  have hz : (s.extract 0 i).size = i := by rw [ByteArray.size_extract]; omega
  have hz2 : (s.extract 0 i ++ putWord v).size = i + 4 := by rw [ByteArray.size_append, hz, putWord_size]
  rcases hj with hj | hj
  · unfold setWord
    rw [bt_append_left (by omega), bt_append_left (by omega)]
    have := bt_extract (s := s) (a := 0) (b := i) (i := j) (by omega)
    rw [this, Nat.zero_add]
  · by_cases hs : j < s.size
    · obtain ⟨d, rfl⟩ : ∃ d, j = (i + 4) + d := ⟨j - (i + 4), by omega⟩
      unfold setWord
      have := bt_append_right (s := s.extract 0 i ++ putWord v) (t := s.extract (i + 4) s.size) d
      rw [hz2] at this
      rw [this, bt_extract (by omega)]
    · rw [bt_ge (by rw [setWord_size h]; omega), bt_ge (by omega)]

theorem wordAt_set_eq {s : ByteArray} {i : Nat} (h : i + 4 ≤ s.size) (v : Int) : wordAt (setWord s i v) i = v % 4294967296 := by
  obtain ⟨h0, h1, h2, h3⟩ := bt_putWord v
  have e0 := bt_set_in (k := 0) h (by omega) v
  rw [Nat.add_zero] at e0
  unfold wordAt
  rw [e0, bt_set_in h (by omega), bt_set_in h (by omega), bt_set_in h (by omega), h0, h1, h2, h3]
  omega

theorem wordAt_set_ne {s : ByteArray} {i j : Nat} (h : i + 4 ≤ s.size) (hj : j + 4 ≤ i ∨ i + 4 ≤ j) (v : Int) : wordAt (setWord s i v) j = wordAt s j := by
  unfold wordAt
  rw [bt_set_out h (by omega), bt_set_out h (by omega), bt_set_out h (by omega), bt_set_out h (by omega)]

theorem wordN_set_eq {s : ByteArray} {i v : Nat} (h : i + 4 ≤ s.size) (hv : v < 4294967296) : wordN (setWord s i (v : Int)) i = v := by
  unfold wordN
  rw [wordAt_set_eq h]; omega

theorem wordN_set_ne {s : ByteArray} {i j : Nat} (h : i + 4 ≤ s.size) (hj : j + 4 ≤ i ∨ i + 4 ≤ j) (v : Int) : wordN (setWord s i v) j = wordN s j := by
  unfold wordN
  rw [wordAt_set_ne h hj]

theorem putE_form {e : Nat} (acc : Int) : putE e acc = 256 * (e / 256) + (e % 256 ||| (if acc == 2 then 96 else 32)) := by
  unfold putE
  have hc : (if acc == 2 then 96 else 32 : Nat) < 256 := by split <;> omega
  generalize (if acc == 2 then 96 else 32 : Nat) = c at hc
  have h1 : (e ||| c) / 256 = e / 256 := by
    have := Nat.shiftRight_or_distrib (i := 8) (a := e) (b := c)
    rw [Nat.shiftRight_eq_div_pow, Nat.shiftRight_eq_div_pow, Nat.shiftRight_eq_div_pow] at this
    rw [show (256 : Nat) = 2 ^ 8 from rfl, this, Nat.div_eq_of_lt (a := c) (by omega), Nat.or_zero]
  have h2 : (e ||| c) % 256 = (e % 256 ||| c) := by
    have := Nat.or_mod_two_pow (a := e) (b := c) (n := 8)
    rw [show (256 : Nat) = 2 ^ 8 from rfl, this, Nat.mod_eq_of_lt (a := c) (by omega)]
  omega

theorem or_byte : ∀ m : Nat, m < 256 → (m ||| 96) < 256 ∧ (m ||| 32) < 256 ∧ ((m ||| 96) &&& 31 = m &&& 31) ∧ ((m ||| 32) &&& 31 = m &&& 31) ∧ ((m ||| 96) ||| 96 = m ||| 96) ∧ ((m ||| 32) ||| 32 = m ||| 32) := by decide +kernel

theorem putE_facts (e : Nat) (acc : Int) : putE e acc / 256 = e / 256 ∧ low8 (putE e acc : Nat) &&& 31 = low8 (e : Nat) &&& 31 ∧ putE (putE e acc) acc = putE e acc ∧ (e < 4294967296 → putE e acc < 4294967296) ∧ putE e acc % 256 = (e % 256 ||| (if acc == 2 then 96 else 32)) := by
  have hf := putE_form (e := e) acc
  have hf2 := putE_form (e := putE e acc) acc
  obtain ⟨b1, b2, b3, b4, b5, b6⟩ := or_byte (e % 256) (by omega)
  have hc : (e % 256 ||| (if acc == 2 then 96 else 32)) < 256 := by split <;> assumption
  have hm : putE e acc % 256 = (e % 256 ||| (if acc == 2 then 96 else 32)) := by omega
  have hd : putE e acc / 256 = e / 256 := by omega
  refine ⟨hd, ?_, ?_, by omega, hm⟩
  · have l1 : low8 ((putE e acc : Nat) : Int) = putE e acc % 256 := by unfold low8; omega
    have l2 : low8 ((e : Nat) : Int) = e % 256 := by unfold low8; omega
    rw [l1, l2, hm]
    split <;> assumption
  · rw [hm, hd] at hf2
    rw [hf2, hf]
    congr 1
    split <;> assumption

theorem and_sub (a b c : Nat) (hc : 31 &&& c = c) (h : a &&& 31 = b &&& 31) : a &&& c = b &&& c := by
  rw [← hc, ← Nat.and_assoc, ← Nat.and_assoc, h]

theorem pick3 (a : Int) : (if a == 2 then 4 else if a == 3 then 8 else 2 : Nat) = 4 ∨ (if a == 2 then 4 else if a == 3 then 8 else 2 : Nat) = 8 ∨ (if a == 2 then 4 else if a == 3 then 8 else 2 : Nat) = 2 := by
  split
  · exact .inl rfl
  · split
    · exact .inr (.inl rfl)
    · exact .inr (.inr rfl)

/-- A fold over a list, each place going on with another state. -/
theorem foldL {T S : Type} (lp : Nat → Int → S → Option R) (l : List T) (g : S → T → S) (I : Nat → S → Prop) (k : S → Option R)
    (h : ∀ f i s x, i < l.length → nth l i = some x → I i s → lp (f + 1) (i : Int) s = lp f ((i + 1 : Nat) : Int) (g s x) ∧ I (i + 1) (g s x))
    (he : ∀ f s, I l.length s → lp (f + 1) (l.length : Int) s = k s) {s : S} (hs : I 0 s) {f : Nat} (hf : l.length < f) : lp f 0 s = k (l.foldl g s) ∧ I l.length (l.foldl g s) := by
  have := fold lp l.length (fun i s => atD l i (g s) s) I k (fun f i s hi hI => by
    obtain ⟨x, hx⟩ := nth_some hi
    rw [atD_some hx]
    exact h f i s x hi hx hI) he hs hf
  rw [foldl_atD] at this
  exact this

/-- Texts, one behind the other. -/
def catB : List ByteArray → ByteArray
  | [] => ⟨[].toArray⟩
  | x :: l => x ++ catB l

theorem ba_append_empty (x : ByteArray) : x ++ (⟨[].toArray⟩ : ByteArray) = x := by
  apply ByteArray.ext
  simp

theorem ba_empty_append (x : ByteArray) : (⟨[].toArray⟩ : ByteArray) ++ x = x := by
  apply ByteArray.ext
  simp

theorem tdiv_nn {n m : Int} (h : 0 ≤ n) : n.tdiv m = n / m := Int.tdiv_eq_ediv_of_nonneg h

theorem tmod_nn {n m : Int} (h : 0 ≤ n) : n.tmod m = n % m := Int.tmod_eq_emod_of_nonneg h

/-- A list's fold that appends to a text. -/
theorem foldl_append {T : Type} (f : T → ByteArray) : ∀ (l : List T) (s : ByteArray), l.foldl (fun s x => s ++ f x) s = s ++ catB (l.map f)
  | [], s => by simp only [List.foldl_nil, List.map_nil, catB, ba_append_empty]
  | x :: l, s => by
    rw [List.foldl_cons, foldl_append f l, List.map_cons]
    simp only [catB, ByteArray.append_assoc]

structure Good (s : ByteArray) : Prop where
  ok : memOk s = true
  le : s.size ≤ 65536
  fr : s.size % 256 = 0

theorem low8_nat (e : Nat) : low8 ((e : Nat) : Int) = e % 256 := by unfold low8; omega

def dm (a n : Nat) : Nat := if 256 - a % 256 < n then 256 - a % 256 else n

theorem dm_facts {a n : Nat} (h : 0 < n) : 0 < dm a n ∧ dm a n ≤ n ∧ a % 256 + dm a n ≤ 256 := by
  unfold dm
  split <;> omega

def toA (q : Nat × Nat) : A2i64 := ⟨(q.1 : Int), (q.2 : Int)⟩

def lk (s : ByteArray) (root a : Nat) (acc : Int) : Look := look s root a acc true

def dmaK (root : Nat) (acc : Int) : Nat → ByteArray → Nat → Nat → (Int → Option R) → (ByteArray → List (Nat × Nat) → Option R) → Option R
  | 0, s, _, _, _, kN => kN s []
  | d + 1, s, a, n, kR, kN => cond (decide (0 < n)) (cond ((lk s root a acc).fault != 0) (kR (a : Int))
      (dmaK root acc d (setWord s (lk s root a acc).entryAt.toNat (lk s root a acc).entry) (a + dm a n) (n - dm a n) kR (fun s' L => kN s' (((lk s root a acc).pa.toNat, dm a n) :: L)))) (kN s [])

theorem dmaK_succ (root : Nat) (acc : Int) (d : Nat) (s : ByteArray) (a n : Nat) (kR : Int → Option R) (kN : ByteArray → List (Nat × Nat) → Option R) : dmaK root acc (d + 1) s a n kR kN = cond (decide (0 < n)) (cond ((lk s root a acc).fault != 0) (kR (a : Int))
      (dmaK root acc d (setWord s (lk s root a acc).entryAt.toNat (lk s root a acc).entry) (a + dm a n) (n - dm a n) kR (fun s' L => kN s' (((lk s root a acc).pa.toNat, dm a n) :: L)))) (kN s []) := rfl

theorem lk_ok {s : ByteArray} {root a : Nat} {acc : Int} (hv : a < 262144) (h : (lk s root a acc).fault = 0) : ∃ f t i : Nat, f < s.size / 256 ∧ t < s.size / 256 ∧ i < 32 ∧ (lk s root a acc).pa = ((f * 256 + a % 256 : Nat) : Int) ∧ (lk s root a acc).entryAt = ((ent t i : Nat) : Int) :=
  (look_facts s acc true hv).2 h

theorem memOk_size {s t : ByteArray} (h : t.size = s.size) : memOk t = memOk s := by unfold memOk; rw [h]

theorem impl_ydma_go (root : Nat) (acc : Int) (hr : root ≤ 255) (ha : acc = 1 ∨ acc = 2 ∨ acc = 3) (b4 : Bool) (n8 n9 : Int) (s1 s2 : ByteArray) : ∀ (d n a f : Nat) (s : ByteArray) (b : Bool) (l1 : List A2i64), n ≤ d → d < f → a + n ≤ 262144 → s.size % 256 = 0 → s.size ≤ 65536 → l1.length + n ≤ 2 ^ 20 →
    ∃ b', ∀ (kR : Bool → Int → List Int → List A2i64 → Option R) (kR' : Int → Option R) (kN : Bool → List Int → List A2i64 → Option R), (∀ b p l m, kR b p l m = kR' p) →
      l_impl_ydma_0 N (root : Int) acc b4 n8 n9 s1 s2 kR kN f (a : Int) (n : Int) b (ofBytes s) l1 = dmaK root acc d s a n kR' (fun s' L => kN b' (ofBytes s') (l1 ++ L.map toA)) := by
  intro d
  induction d with
  | zero =>
    intro n a f s b l1 hn hf ha2 h256 hs hl
    obtain ⟨f, rfl⟩ : ∃ j, f = j + 1 := ⟨f - 1, by omega⟩
    refine ⟨b, fun kR kR' kN hR => ?_⟩
    rw [l_impl_ydma_0, s_impl_ydma_0, decide_eq_false (show ¬ (n : Int) > 0 by omega), cond_false, dmaK, List.map_nil, List.append_nil]
  | succ d ih =>
    intro n a f s b l1 hn hf ha2 h256 hs hl
    obtain ⟨f, rfl⟩ : ∃ j, f = j + 1 := ⟨f - 1, by omega⟩
    by_cases h0 : 0 < n
    case neg =>
      refine ⟨b, fun kR kR' kN hR => ?_⟩
      rw [l_impl_ydma_0, s_impl_ydma_0, decide_eq_false (show ¬ (n : Int) > 0 by omega), cond_false, dmaK_succ, decide_eq_false h0, cond_false, List.map_nil, List.append_nil]
    have hlk := fun k => impl_ylookup_eq N (R := R) (s := s) (root := root) (va := a) (acc := acc) (user := true) (b := b4) hs h256 hr (by omega) ha k
    change ∀ k, _ = (lk s root a acc).out k at hlk
    cases hft : ((lk s root a acc).fault != 0) with
    | true =>
      refine ⟨b, fun kR kR' kN hR => ?_⟩
      rw [l_impl_ydma_0, s_impl_ydma_0, decide_eq_true (show (n : Int) > 0 by omega), cond_true, hlk, Look.out, hft, cond_true, hR, dmaK_succ, decide_eq_true h0, cond_true, hft, cond_true]
    | false =>
      have hf0 : (lk s root a acc).fault = 0 := by simpa using hft
      obtain ⟨g, t, i, hg, ht, hi, hpa, hea⟩ := lk_ok (by omega) hf0
      obtain ⟨d1, d2, d3⟩ := dm_facts (a := a) h0
      have hen : ent t i + 4 ≤ s.size := by rw [ent_eq]; omega
      have hsz := setWord_size hen (lk s root a acc).entry
      have hst : (if decide (IntKind.wrap .i64 (256 - Int.tmod (a : Int) 256) < (n : Int)) = true then IntKind.wrap .i64 (256 - Int.tmod (a : Int) 256) else (n : Int)) = ((dm a n : Nat) : Int) := by
        rw [tmod_nn (by omega), w64 (by omega) (by omega)]
        unfold dm
        by_cases h : 256 - a % 256 < n
        · rw [decide_eq_true (by omega), if_pos rfl, if_pos h]; omega
        · rw [decide_eq_false (by omega), if_neg (by simp), if_neg h]
      have e1 : IntKind.wrap .i64 ((a : Int) + ((dm a n : Nat) : Int)) = ((a + dm a n : Nat) : Int) := by rw [w64 (by omega) (by omega)]; omega
      have e2 : IntKind.wrap .i64 ((n : Int) - ((dm a n : Nat) : Int)) = ((n - dm a n : Nat) : Int) := by rw [w64 (by omega) (by omega)]; omega
      have hA : (⟨(lk s root a acc).pa, ((dm a n : Nat) : Int)⟩ : A2i64) = toA ((lk s root a acc).pa.toNat, dm a n) := by unfold toA; rw [hpa, Int.toNat_natCast]
      obtain ⟨b', h⟩ := ih (n - dm a n) (a + dm a n) f (setWord s (ent t i) (lk s root a acc).entry) (cond (Nat.beq 1 0) b false) (l1 ++ [toA ((lk s root a acc).pa.toNat, dm a n)]) (by omega) (by omega) (by omega) (by rw [hsz]; exact h256) (by omega) (by rw [List.length_append, List.length_singleton]; omega)
      refine ⟨b', fun kR kR' kN hR => ?_⟩
      have h := h kR kR' kN hR
      rw [l_impl_ydma_0, s_impl_ydma_0, decide_eq_true (show (n : Int) > 0 by omega), cond_true, hlk, Look.out, hft, cond_false, hea, impl_yputWord_eq N hen (by omega), hst, hA, List.length_singleton, room (show (l1.length + 1) * 16 ≤ 2 ^ 47 by omega) (by omega), cond_true, e1, e2, dmaK_succ, decide_eq_true h0, cond_true, hft, cond_false, hea, Int.toNat_natCast]
      refine h.trans ?_
      congr 1
      funext s' L
      rw [List.append_assoc]
      rfl

theorem spec_dma_go (root : Nat) (acc : Int) (hr : root ≤ 255) (ha : acc = 1 ∨ acc = 2 ∨ acc = 3) (n9 n10 : Int) (s2 s3 : ByteArray) (kR : ByteArray → Bool → Bool → Int → List Int → List Int → Option R) (kR' : Int → Option R) (hR : ∀ s b c p l m, kR s b c p l m = kR' p) : ∀ (d n a f : Nat) (s : ByteArray) (l l1 : List Int) (kN : ByteArray → Bool → Bool → List Int → List Int → Option R), n ≤ d → d < f → a + n ≤ 262144 → memOk s = true → s.size % 256 = 0 → s.size ≤ 65536 → l.length + n ≤ 2 ^ 20 → l1.length + n ≤ 2 ^ 20 →
      l_spec_l11Dma_0 N (root : Int) acc n9 n10 s2 s3 kR kN f s (a : Int) (n : Int) false false l l1 = dmaK root acc d s a n kR' (fun s' L => kN s' false false (l ++ L.map (fun q => (q.1 : Int))) (l1 ++ L.map (fun q => (q.2 : Int)))) := by
  intro d
  induction d with
  | zero =>
    intro n a f s l l1 kN hn hf ha2 hm h256 hs hl hl1
    obtain ⟨f, rfl⟩ : ∃ j, f = j + 1 := ⟨f - 1, by omega⟩
    rw [l_spec_l11Dma_0, s_spec_l11Dma_0, decide_eq_false (show ¬ (n : Int) > 0 by omega), cond_false, dmaK, List.map_nil, List.map_nil, List.append_nil, List.append_nil]
  | succ d ih =>
    intro n a f s l l1 kN hn hf ha2 hm h256 hs hl hl1
    obtain ⟨f, rfl⟩ : ∃ j, f = j + 1 := ⟨f - 1, by omega⟩
    by_cases h0 : 0 < n
    case neg =>
      rw [l_spec_l11Dma_0, s_spec_l11Dma_0, decide_eq_false (show ¬ (n : Int) > 0 by omega), cond_false, dmaK_succ, decide_eq_false h0, cond_false, List.map_nil, List.map_nil, List.append_nil, List.append_nil]
    have hwk : ∀ k : Int → Int → Int → Bool → Bool → ByteArray → List Int → Option R, g_spec_Walk N s (root : Int) (a : Int) acc true k = k (lk s root a acc).fault (lk s root a acc).pa (lk s root a acc).entry (lk s root a acc).large false (cond ((lk s root a acc).fault == 0) (setWord s (lk s root a acc).entryAt.toNat (lk s root a acc).entry) s) (framesOf (lk s root a acc)) :=
      fun k => spec_Walk_eq N (R := R) (s := s) (root := root) (va := a) (acc := acc) (user := true) hm hs h256 hr (by omega) ha k
    obtain ⟨d1, d2, d3⟩ := dm_facts (a := a) h0
    have hmin : ∀ k : Int → Option R, g_spec_l01Min N (n : Int) (IntKind.wrap .i64 (256 - Int.tmod (a : Int) 256)) k = k ((dm a n : Nat) : Int) := fun k => by
      rw [tmod_nn (by omega), w64 (by omega) (by omega), g_spec_l01Min]
      unfold dm
      by_cases h : 256 - a % 256 < n
      · rw [decide_eq_false (by omega), cond_false, if_pos h]; congr 1; omega
      · by_cases h' : n < 256 - a % 256
        · rw [decide_eq_true (by omega), cond_true, if_neg h]
        · rw [decide_eq_false (by omega), cond_false, if_neg h]; congr 1; omega
    cases hft : ((lk s root a acc).fault != 0) with
    | true =>
      rw [l_spec_l11Dma_0, s_spec_l11Dma_0, decide_eq_true (show (n : Int) > 0 by omega), cond_true, hmin, hwk, hft, cond_true, hR, dmaK_succ, decide_eq_true h0, cond_true, hft, cond_true]
    | false =>
      have hf0 : (lk s root a acc).fault = 0 := by simpa using hft
      have hf1 : ((lk s root a acc).fault == 0) = true := by simpa using hft
      obtain ⟨g, t, i, hg, ht, hi, hpa, hea⟩ := lk_ok (by omega) hf0
      have hen : ent t i + 4 ≤ s.size := by rw [ent_eq]; omega
      have hsz := setWord_size hen (lk s root a acc).entry
      have e1 : IntKind.wrap .i64 ((a : Int) + ((dm a n : Nat) : Int)) = ((a + dm a n : Nat) : Int) := by rw [w64 (by omega) (by omega)]; omega
      have e2 : IntKind.wrap .i64 ((n : Int) - ((dm a n : Nat) : Int)) = ((n - dm a n : Nat) : Int) := by rw [w64 (by omega) (by omega)]; omega
      have hp2 : (lk s root a acc).pa = (((lk s root a acc).pa.toNat : Nat) : Int) := by rw [hpa, Int.toNat_natCast]
      rw [l_spec_l11Dma_0, s_spec_l11Dma_0, decide_eq_true (show (n : Int) > 0 by omega), cond_true, hmin, hwk, hft, cond_false, hf1, cond_true, hea, List.length_singleton, List.length_singleton, room (show (l.length + 1) * 8 ≤ 2 ^ 47 by omega) (by omega), cond_true, room (show (l1.length + 1) * 8 ≤ 2 ^ 47 by omega) (by omega), cond_true, e1, e2, dmaK_succ, decide_eq_true h0, cond_true, hft, cond_false, hea, Int.toNat_natCast]
      refine (ih (n - dm a n) (a + dm a n) f (setWord s (ent t i) (lk s root a acc).entry) (l ++ [(lk s root a acc).pa]) (l1 ++ [((dm a n : Nat) : Int)]) kN (by omega) (by omega) (by omega) (by rw [memOk_size hsz]; exact hm) (by rw [hsz]; exact h256) (by omega) (by rw [List.length_append, List.length_singleton]; omega) (by rw [List.length_append, List.length_singleton]; omega)).trans ?_
      congr 1
      funext s' L
      rw [List.append_assoc, List.append_assoc, List.map_cons, List.map_cons, ← hp2]
      rfl


def gi (l : List Int) (i : Nat) : Int := (nth l i).getD 0

theorem gi_some {l : List Int} {i : Nat} (h : i < l.length) : nth l i = some (gi l i) := by
  obtain ⟨x, hx⟩ := nth_some h
  unfold gi; rw [hx]; rfl

def frame (s : ByteArray) (f : Nat) : ByteArray := s.extract (f * 256) (f * 256 + 256)

theorem frame_size {s : ByteArray} {f : Nat} (h : f * 256 + 256 ≤ s.size) : (frame s f).size = 256 := by
  unfold frame; rw [ByteArray.size_extract]; omega

def wEq (x y : Nat) : Prop := x / 256 = y / 256 ∧ x % 256 &&& 31 = y % 256 &&& 31

theorem wEq.refl (x : Nat) : wEq x x := ⟨rfl, rfl⟩

theorem wEq.trans {x y z : Nat} (h : wEq x y) (g : wEq y z) : wEq x z := ⟨h.1.trans g.1, h.2.trans g.2⟩

theorem wEq.symm {x y : Nat} (h : wEq x y) : wEq y x := ⟨h.1.symm, h.2.symm⟩

theorem wEq_put (e : Nat) (acc : Int) : wEq (putE e acc) e := by
  obtain ⟨h1, h2, _⟩ := putE_facts e acc
  rw [low8_nat, low8_nat] at h2
  exact ⟨h1, h2⟩

theorem wEq.leads {x y : Nat} (h : wEq x y) : leadsOn x = leadsOn y := by
  have h2 := h.2
  rw [← low8_nat, ← low8_nat] at h2
  unfold leadsOn
  rw [and_sub _ _ 1 rfl h2, and_sub _ _ 14 rfl h2]

theorem wEq.lets {x y : Nat} (h : wEq x y) (a : Int) (u : Bool) : letsB (low8 (x : Nat)) a u = letsB (low8 (y : Nat)) a u := by
  have h3 := h.2
  rw [← low8_nat, ← low8_nat] at h3
  unfold letsB
  rw [and_sub _ _ 1 rfl h3, and_sub _ _ 16 rfl h3]
  have h2 : ∀ c : Nat, (c = 4 ∨ c = 8 ∨ c = 2) → low8 (x : Nat) &&& c = low8 (y : Nat) &&& c := fun c hc => by
    rcases hc with rfl | rfl | rfl
    · exact and_sub _ _ 4 rfl h3
    · exact and_sub _ _ 8 rfl h3
    · exact and_sub _ _ 2 rfl h3
  rw [h2 _ (pick3 _)]

/-- A look at memory whose words in the frames looked at are the same but for flags. -/
theorem look_same {s t : ByteArray} {root va : Nat} {acc : Int} {u : Bool} (hz : t.size = s.size) (h1 : root < s.size / 256 → wEq (wordN t (ent root (va / 8192))) (wordN s (ent root (va / 8192))))
    (h2 : ∀ r, r = wordN s (ent root (va / 8192)) / 256 → root < s.size / 256 → leadsOn (wordN s (ent root (va / 8192))) = true → r < s.size / 256 → wEq (wordN t (ent r (va / 256 % 32))) (wordN s (ent r (va / 256 % 32)))) :
    (look t root va acc u).fault = (look s root va acc u).fault ∧ (look t root va acc u).pa = (look s root va acc u).pa ∧ (look t root va acc u).entryAt = (look s root va acc u).entryAt ∧ framesOf (look t root va acc u) = framesOf (look s root va acc u) := by
  unfold look
  dsimp only
  rw [hz]
  by_cases h0 : s.size / 256 ≤ root
  · rw [decide_eq_true h0, cond_true, cond_true]; exact ⟨rfl, rfl, rfl, rfl⟩
  rw [decide_eq_false h0, cond_false, cond_false]
  have h1 := h1 (by omega)
  have h2 := fun r hr => h2 r hr (by omega)
  obtain ⟨e, he⟩ : ∃ e, wordN s (ent root (va / 8192)) = e := ⟨_, rfl⟩
  obtain ⟨e', he'⟩ : ∃ e, wordN t (ent root (va / 8192)) = e := ⟨_, rfl⟩
  rw [he] at h1 h2
  rw [he'] at h1
  rw [he, he', h1.leads, h1.1]
  cases hL : leadsOn e with
  | true =>
    rw [cond_true, cond_true]
    by_cases h3 : s.size / 256 ≤ e / 256
    · rw [decide_eq_true h3, cond_true, cond_true]; exact ⟨rfl, rfl, rfl, rfl⟩
    rw [decide_eq_false h3, cond_false, cond_false]
    have h4 := h2 (e / 256) rfl hL (by omega)
    obtain ⟨e2, he2⟩ : ∃ x, wordN s (ent (e / 256) (va / 256 % 32)) = x := ⟨_, rfl⟩
    obtain ⟨e2', he2'⟩ : ∃ x, wordN t (ent (e / 256) (va / 256 % 32)) = x := ⟨_, rfl⟩
    rw [he2, he2'] at h4
    rw [he2, he2', h4.lets, h4.1]
    cases letsB (low8 (e2 : Nat)) acc u with
    | false => exact ⟨rfl, rfl, rfl, rfl⟩
    | true =>
      rw [Bool.not_true, cond_false, cond_false]
      cases decide (s.size / 256 ≤ e2 / 256) <;> exact ⟨rfl, rfl, rfl, rfl⟩
  | false =>
    rw [cond_false, cond_false, h1.lets]
    cases (e / 256 % 32 == 0) with
    | false => exact ⟨rfl, rfl, rfl, rfl⟩
    | true =>
      rw [Bool.not_true, cond_false, cond_false]
      cases letsB (low8 (e : Nat)) acc u with
      | false => exact ⟨rfl, rfl, rfl, rfl⟩
      | true =>
        rw [Bool.not_true, cond_false, cond_false]
        cases decide (s.size / 256 ≤ e / 256 + va / 256 % 32) <;> exact ⟨rfl, rfl, rfl, rfl⟩

theorem framesOf_eq {w w' : Look} (h : w.many = w'.many) (h0 : w.r0 = w'.r0) (h1 : w.r1 = w'.r1) : framesOf w = framesOf w' := by
  unfold framesOf; rw [h, h0, h1]

/-- What a look without fault is. -/
def lookForm (s : ByteArray) (root va : Nat) (acc : Int) : Look :=
  cond (leadsOn (wordN s (ent root (va / 8192))))
    ⟨0, (wordN s (ent (wordN s (ent root (va / 8192)) / 256) (va / 256 % 32)) / 256 * 256 + va % 256 : Nat), (ent (wordN s (ent root (va / 8192)) / 256) (va / 256 % 32) : Nat), (wordN s (ent (wordN s (ent root (va / 8192)) / 256) (va / 256 % 32)) : Nat), (putE (wordN s (ent (wordN s (ent root (va / 8192)) / 256) (va / 256 % 32))) acc : Nat), false, root, (wordN s (ent root (va / 8192)) / 256 : Nat), 2⟩
    ⟨0, ((wordN s (ent root (va / 8192)) / 256 + va / 256 % 32) * 256 + va % 256 : Nat), (ent root (va / 8192) : Nat), (wordN s (ent root (va / 8192)) : Nat), (putE (wordN s (ent root (va / 8192))) acc : Nat), true, root, 0, 1⟩

theorem look_form {s : ByteArray} {root va : Nat} {acc : Int} {u : Bool} (h : (look s root va acc u).fault = 0) : look s root va acc u = lookForm s root va acc := by
  unfold lookForm
  unfold look at h ⊢
  dsimp only at h ⊢
  by_cases h0 : s.size / 256 ≤ root
  · rw [decide_eq_true h0] at h; exact absurd (show (2 : Int) = 0 from h) (by decide)
  rw [decide_eq_false h0, cond_false] at h ⊢
  obtain ⟨e, he⟩ : ∃ e, wordN s (ent root (va / 8192)) = e := ⟨_, rfl⟩
  rw [he] at h ⊢
  cases hL : leadsOn e with
  | true =>
    rw [hL, cond_true] at h
    rw [cond_true, cond_true]
    by_cases h1 : s.size / 256 ≤ e / 256
    · rw [decide_eq_true h1] at h; exact absurd (show (2 : Int) = 0 from h) (by decide)
    rw [decide_eq_false h1, cond_false] at h ⊢
    obtain ⟨e2, he2⟩ : ∃ e2, wordN s (ent (e / 256) (va / 256 % 32)) = e2 := ⟨_, rfl⟩
    rw [he2] at h ⊢
    cases hl : letsB (low8 (e2 : Nat)) acc u with
    | false => rw [hl] at h; exact absurd (show (1 : Int) = 0 from h) (by decide)
    | true =>
    rw [hl, Bool.not_true, cond_false] at h
    rw [Bool.not_true, cond_false]
    by_cases h2 : s.size / 256 ≤ e2 / 256
    · rw [decide_eq_true h2] at h; exact absurd (show (2 : Int) = 0 from h) (by decide)
    rw [decide_eq_false h2, cond_false]
  | false =>
    rw [hL, cond_false] at h
    rw [cond_false, cond_false]
    cases h1 : (e / 256 % 32 == 0) with
    | false => rw [h1] at h; exact absurd (show (1 : Int) = 0 from h) (by decide)
    | true =>
    rw [h1, Bool.not_true, cond_false] at h
    rw [Bool.not_true, cond_false]
    cases hl : letsB (low8 (e : Nat)) acc u with
    | false => rw [hl] at h; exact absurd (show (1 : Int) = 0 from h) (by decide)
    | true =>
    rw [hl, Bool.not_true, cond_false] at h
    rw [Bool.not_true, cond_false]
    by_cases h2 : s.size / 256 ≤ e / 256 + va / 256 % 32
    · rw [decide_eq_true h2] at h; exact absurd (show (2 : Int) = 0 from h) (by decide)
    rw [decide_eq_false h2, cond_false]

theorem lookForm_acc (s : ByteArray) (root va : Nat) (acc acc' : Int) : (lookForm s root va acc).pa = (lookForm s root va acc').pa ∧ framesOf (lookForm s root va acc) = framesOf (lookForm s root va acc') ∧ (lookForm s root va acc).entryAt = (lookForm s root va acc').entryAt := by
  unfold lookForm
  cases leadsOn (wordN s (ent root (va / 8192))) with
  | true =>
    rw [cond_true, cond_true]
    refine ⟨?_, framesOf_eq ?_ ?_ ?_, ?_⟩ <;> dsimp only
  | false =>
    rw [cond_false, cond_false]
    refine ⟨?_, framesOf_eq ?_ ?_ ?_, ?_⟩ <;> dsimp only

/-- Where an access is let, the place is the same for another one that is let. -/
theorem look_acc {s : ByteArray} {root va : Nat} {acc acc' : Int} {u : Bool} (h : (look s root va acc u).fault = 0) (h' : (look s root va acc' u).fault = 0) :
    (look s root va acc u).pa = (look s root va acc' u).pa ∧ framesOf (look s root va acc u) = framesOf (look s root va acc' u) ∧ (look s root va acc u).entryAt = (look s root va acc' u).entryAt := by
  rw [look_form h, look_form h']
  exact lookForm_acc s root va acc acc'

/-- What a look without fault has looked at. -/
theorem look_tables {s : ByteArray} {root va : Nat} {acc : Int} {u : Bool} (hv : va < 262144) (h : (look s root va acc u).fault = 0) :
    ∃ (f t i : Nat), root < s.size / 256 ∧ (root : Int) ∈ framesOf (look s root va acc u) ∧ (leadsOn (wordN s (ent root (va / 8192))) = true → ((wordN s (ent root (va / 8192)) / 256 : Nat) : Int) ∈ framesOf (look s root va acc u)) ∧
      f < s.size / 256 ∧ t < s.size / 256 ∧ i < 32 ∧ (look s root va acc u).pa = ((f * 256 + va % 256 : Nat) : Int) ∧ (look s root va acc u).entryAt = (ent t i : Nat) ∧ (t : Int) ∈ framesOf (look s root va acc u) ∧ (look s root va acc u).entry = (putE (wordN s (ent t i)) acc : Nat) := by
  unfold look at h ⊢
  dsimp only at h ⊢
  by_cases h0 : s.size / 256 ≤ root
  · rw [decide_eq_true h0] at h; exact absurd (show (2 : Int) = 0 from h) (by decide)
  rw [decide_eq_false h0, cond_false] at h ⊢
  obtain ⟨e, he⟩ : ∃ e, wordN s (ent root (va / 8192)) = e := ⟨_, rfl⟩
  rw [he] at h ⊢
  cases hL : leadsOn e with
  | true =>
    rw [hL, cond_true] at h
    rw [cond_true]
    by_cases h1 : s.size / 256 ≤ e / 256
    · rw [decide_eq_true h1] at h; exact absurd (show (2 : Int) = 0 from h) (by decide)
    rw [decide_eq_false h1, cond_false] at h ⊢
    obtain ⟨e2, he2⟩ : ∃ e2, wordN s (ent (e / 256) (va / 256 % 32)) = e2 := ⟨_, rfl⟩
    rw [he2] at h ⊢
    cases hl : letsB (low8 (e2 : Nat)) acc u with
    | false => rw [hl] at h; exact absurd (show (1 : Int) = 0 from h) (by decide)
    | true =>
    rw [hl, Bool.not_true, cond_false] at h
    rw [Bool.not_true, cond_false]
    by_cases h2 : s.size / 256 ≤ e2 / 256
    · rw [decide_eq_true h2] at h; exact absurd (show (2 : Int) = 0 from h) (by decide)
    rw [decide_eq_false h2, cond_false]
    exact ⟨e2 / 256, e / 256, va / 256 % 32, by omega, List.mem_cons_self .., fun _ => List.mem_cons_of_mem _ (List.mem_cons_self ..), by omega, by omega, by omega, rfl, rfl, List.mem_cons_of_mem _ (List.mem_cons_self ..), by rw [he2]⟩
  | false =>
    rw [hL, cond_false] at h
    rw [cond_false]
    cases h1 : (e / 256 % 32 == 0) with
    | false => rw [h1] at h; exact absurd (show (1 : Int) = 0 from h) (by decide)
    | true =>
    rw [h1, Bool.not_true, cond_false] at h
    rw [Bool.not_true, cond_false]
    cases hl : letsB (low8 (e : Nat)) acc u with
    | false => rw [hl] at h; exact absurd (show (1 : Int) = 0 from h) (by decide)
    | true =>
    rw [hl, Bool.not_true, cond_false] at h
    rw [Bool.not_true, cond_false]
    by_cases h2 : s.size / 256 ≤ e / 256 + va / 256 % 32
    · rw [decide_eq_true h2] at h; exact absurd (show (2 : Int) = 0 from h) (by decide)
    rw [decide_eq_false h2, cond_false]
    exact ⟨e / 256 + va / 256 % 32, root, va / 8192, by omega, List.mem_cons_self .., (fun hh => by cases hh), by omega, by omega, by omega, rfl, rfl, List.mem_cons_self .., by rw [he]⟩

/-- The same but for flags, in all words. -/
def flagEq (s t : ByteArray) : Prop := t.size = s.size ∧ ∀ f i, f < s.size / 256 → i < 64 → wEq (wordN t (ent f i)) (wordN s (ent f i))

theorem flagEq.refl (s : ByteArray) : flagEq s s := ⟨rfl, fun _ _ _ _ => wEq.refl _⟩

theorem flagEq.trans {s t v : ByteArray} (h : flagEq s t) (g : flagEq t v) : flagEq s v := ⟨g.1.trans h.1, fun f i hf hi => (g.2 f i (by rw [h.1]; exact hf) hi).trans (h.2 f i hf hi)⟩

theorem flagEq.look {s t : ByteArray} (h : flagEq s t) {root va : Nat} {acc : Int} {u : Bool} (hv : va < 262144) :
    (look t root va acc u).fault = (look s root va acc u).fault ∧ (look t root va acc u).pa = (look s root va acc u).pa ∧ (look t root va acc u).entryAt = (look s root va acc u).entryAt ∧ framesOf (look t root va acc u) = framesOf (look s root va acc u) :=
  look_same h.1 (fun hr => h.2 _ _ hr (by omega)) (fun r _ _ _ hr => h.2 _ _ hr (by omega))

theorem flagEq_set {s : ByteArray} {t i : Nat} {acc : Int} (h256 : s.size % 256 = 0) (ht : t < s.size / 256) (hi : i < 64) : flagEq s (setWord s (ent t i) (putE (wordN s (ent t i)) acc : Nat)) := by
  have hin : ent t i + 4 ≤ s.size := by rw [ent_eq]; omega
  refine ⟨setWord_size hin _, fun f j hf hj => ?_⟩
  obtain ⟨_, _, _, f4, _⟩ := putE_facts (wordN s (ent t i)) acc
  by_cases he : ent f j = ent t i
  · rw [he, wordN_set_eq hin (f4 (wordN_lt _ _))]
    exact wEq_put _ _
  · rw [wordN_set_ne hin (by rw [ent_eq, ent_eq] at he ⊢; omega)]
    exact wEq.refl _

theorem frame_ext {s t : ByteArray} {f : Nat} (hs : f * 256 + 256 ≤ s.size) (ht : f * 256 + 256 ≤ t.size) : frame s f = frame t f ↔ ∀ i, i < 256 → bt s (f * 256 + i) = bt t (f * 256 + i) := by
  constructor
  · intro h i hi
    have h1 := bt_extract (s := s) (a := f * 256) (b := f * 256 + 256) (i := i) (by omega)
    have h2 := bt_extract (s := t) (a := f * 256) (b := f * 256 + 256) (i := i) (by omega)
    unfold frame at h
    rw [← h1, ← h2, h]
  · intro h
    refine bytes_ext (by rw [frame_size hs, frame_size ht]) fun i hi => ?_
    rw [frame_size hs] at hi
    unfold frame
    rw [bt_extract (by omega), bt_extract (by omega)]
    exact h i hi

theorem frame_set {s : ByteArray} {t i f : Nat} {v : Int} (h256 : s.size % 256 = 0) (ht : t < s.size / 256) (hi : i < 64) (hf : f < s.size / 256) (hne : f ≠ t) : frame (setWord s (ent t i) v) f = frame s f := by
  have hin : ent t i + 4 ≤ s.size := by rw [ent_eq]; omega
  have hz := setWord_size hin v
  refine (frame_ext (by omega) (by omega)).2 fun j hj => ?_
  refine bt_set_out hin ?_ v
  rw [ent_eq]
  have : f < t ∨ t < f := by omega
  omega

/-- Words are read of their frames. -/
theorem word_frame {s t : ByteArray} {f i : Nat} (hs : f * 256 + 256 ≤ s.size) (ht : f * 256 + 256 ≤ t.size) (hi : i < 64) (h : frame s f = frame t f) : wordN s (ent f i) = wordN t (ent f i) := by
  have hb := (frame_ext hs ht).1 h
  unfold wordN wordAt
  have e := ent_eq f i
  have b0 := hb (4 * i) (by omega)
  have b1 := hb (4 * i + 1) (by omega)
  have b2 := hb (4 * i + 2) (by omega)
  have b3 := hb (4 * i + 3) (by omega)
  rw [e, show f * 256 + 4 * i + 1 = f * 256 + (4 * i + 1) by omega, show f * 256 + 4 * i + 2 = f * 256 + (4 * i + 2) by omega, show f * 256 + 4 * i + 3 = f * 256 + (4 * i + 3) by omega, b0, b1, b2, b3]


theorem splice_bytes {s t : ByteArray} {p : Nat} (h : p + t.size ≤ s.size) : Go.Eng.splice (ofBytes s) p (ofBytes t) = ofBytes (splice s p t) := by
  rw [splice_eq _ _ _ (by rw [ofBytes_length, ofBytes_length]; omega)]
  unfold splice
  rw [ofBytes_append, ofBytes_append, ofBytes_extract, ofBytes_extract, ofBytes_length, List.drop_zero, ← ofBytes_length s, List.take_length]

theorem splice_size {s t : ByteArray} {p : Nat} (h : p + t.size ≤ s.size) : (splice s p t).size = s.size := by
  unfold splice
  rw [ByteArray.size_append, ByteArray.size_append, ByteArray.size_extract, ByteArray.size_extract]; omega

/-- What a transfer reads. -/
def dmaData (s : ByteArray) (L : List (Nat × Nat)) : ByteArray := L.foldl (fun z q => z ++ s.extract q.1 (q.1 + q.2)) ⟨[].toArray⟩

theorem impl_read_go {s : ByteArray} {L : List (Nat × Nat)} (hs : s.size ≤ 65536) (hL : L.length ≤ 65536) (hq : ∀ q ∈ L, q.1 + q.2 ≤ s.size) (b3 b4 : Bool) (n7 n8 n9 n10 : Int) (s1 s2 s4 : ByteArray) (hN : 2 ^ 40 < N) (kN : ByteArray → Option R) :
    l_impl_DmaRead_0 N b3 b4 ((L.map toA).length : Int) n7 n8 s1 s2 (ofBytes s) n9 n10 s4 (L.map toA) kN N 0 ⟨[].toArray⟩ = kN (dmaData s L) := by
  rw [List.length_map]
  obtain ⟨h, _⟩ := foldL (fun f i z => l_impl_DmaRead_0 N b3 b4 (L.length : Int) n7 n8 s1 s2 (ofBytes s) n9 n10 s4 (L.map toA) kN f i z) L (fun z q => z ++ s.extract q.1 (q.1 + q.2)) (fun i z => z.size ≤ 65536 * i) kN (fun f i z q hi hx hz => by
    have hx' : nth (L.map toA) i = some (toA q) := by rw [nth_map, hx]; rfl
    have hqq := hq q (by rw [nth_eq] at hx; exact List.mem_of_getElem? hx)
    have e1 : IntKind.wrap .i64 ((q.1 : Int) + (q.2 : Int)) = ((q.1 + q.2 : Nat) : Int) := by rw [w64 (by omega) (by omega)]; omega
    have e2 : IntKind.wrap .i64 ((i : Int) + 1) = ((i + 1 : Nat) : Int) := by rw [w64 (by omega) (by omega)]; omega
    have e3 : (s.extract q.1 (q.1 + q.2)).size ≤ 65536 := by rw [ByteArray.size_extract]; omega
    refine ⟨?_, by rw [ByteArray.size_append]; omega⟩
    rw [l_impl_DmaRead_0, s_impl_DmaRead_0, dec_lt hi, cond_true, dec_nn, List.length_map, dec_lt hi, Bool.and_self, cond_true, Int.toNat_natCast, elemK_some hx']
    unfold toA
    rw [e1, ofBytes_length, rng3 (show q.1 ≤ q.1 + q.2 by omega) hqq, cond_true, Int.toNat_natCast, Int.toNat_natCast, Nat.add_sub_cancel_left, ble_t hqq, cond_true, toBytes_seg, ble_t (by omega), cond_true, e2]) (fun f z _ => by
    rw [l_impl_DmaRead_0, s_impl_DmaRead_0, dec_nlt, cond_false]) (s := ⟨[].toArray⟩) (Nat.zero_le _) (f := N) (by omega)
  exact h

theorem spec_read_go {s : ByteArray} {L : List (Nat × Nat)} (hs : s.size ≤ 65536) (hL : L.length ≤ 65536) (hq : ∀ q ∈ L, q.1 + q.2 ≤ s.size) (b2 b3 : Bool) (n6 n7 n8 n9 : Int) (s2 s3 : ByteArray) (hN : 2 ^ 40 < N) (kN : ByteArray → Option R) :
    l_spec_DmaRead_0 N b2 b3 n6 n7 s2 s3 n8 n9 s (L.map (fun q => (q.1 : Int))) (L.map (fun q => (q.2 : Int))) kN N 0 ⟨[].toArray⟩ = kN (dmaData s L) := by
  obtain ⟨h, _⟩ := foldL (fun f i z => l_spec_DmaRead_0 N b2 b3 n6 n7 s2 s3 n8 n9 s (L.map (fun q => (q.1 : Int))) (L.map (fun q => (q.2 : Int))) kN f i z) L (fun z q => z ++ s.extract q.1 (q.1 + q.2)) (fun i z => z.size ≤ 65536 * i) kN (fun f i z q hi hx hz => by
    have hx1 : nth (L.map (fun q => (q.1 : Int))) i = some (q.1 : Int) := by rw [nth_map, hx]; rfl
    have hx2 : nth (L.map (fun q => (q.2 : Int))) i = some (q.2 : Int) := by rw [nth_map, hx]; rfl
    have hqq := hq q (by rw [nth_eq] at hx; exact List.mem_of_getElem? hx)
    have e1 : IntKind.wrap .i64 ((q.1 : Int) + (q.2 : Int)) = ((q.1 + q.2 : Nat) : Int) := by rw [w64 (by omega) (by omega)]; omega
    have e2 : IntKind.wrap .i64 ((i : Int) + 1) = ((i + 1 : Nat) : Int) := by rw [w64 (by omega) (by omega)]; omega
    have e3 : (s.extract q.1 (q.1 + q.2)).size ≤ 65536 := by rw [ByteArray.size_extract]; omega
    refine ⟨?_, by rw [ByteArray.size_append]; omega⟩
    simp -implicitDefEqProofs only [l_spec_DmaRead_0, s_spec_DmaRead_0, List.length_map, dec_lt hi, cond_true, dec_nn, Bool.and_self, Int.toNat_natCast, elemK_some hx1, elemK_some hx2, e1, decide_eq_true (show (q.1 : Int) ≤ ((q.1 + q.2 : Nat) : Int) by omega), decide_eq_true (show ((q.1 + q.2 : Nat) : Int) ≤ (s.size : Int) by omega), ble_t (show z.size + (s.extract q.1 (q.1 + q.2)).size ≤ 9223372036854775807 by omega), e2]) (fun f z _ => by
    rw [l_spec_DmaRead_0, s_spec_DmaRead_0, List.length_map, dec_nlt, cond_false]) (s := ⟨[].toArray⟩) (Nat.zero_le _) (f := N) (by omega)
  exact h

def dmaPut (st : ByteArray × ByteArray) (q : Nat × Nat) : ByteArray × ByteArray := (st.1.extract q.2 st.1.size, splice st.2 q.1 (st.1.extract 0 q.2))

/-- What a transfer leaves of memory. -/
def dmaMem (t s : ByteArray) (L : List (Nat × Nat)) : ByteArray := (L.foldl dmaPut (t, s)).2

theorem drop_nth {T : Type} {l : List T} {i : Nat} {x : T} (h : nth l i = some x) : l.drop i = x :: l.drop (i + 1) := by
  rw [nth_eq] at h
  obtain ⟨h1, h2⟩ := List.getElem?_eq_some_iff.1 h
  rw [← h2]; exact List.drop_eq_getElem_cons h1

theorem impl_write_go {s t : ByteArray} {L : List (Nat × Nat)} (hs : s.size ≤ 65536) (hL : L.length ≤ 65536) (hq : ∀ q ∈ L, q.1 + q.2 ≤ s.size) (ht : (L.map (·.2)).sum = t.size) (b3 b4 : Bool) (n6 n7 n8 n9 : Int) (s3 s4 s5 s6 : ByteArray) (hN : 2 ^ 40 < N) (kN : List Int → Option R) :
    l_impl_DmaWrite_0 N b3 b4 ((L.map toA).length : Int) n6 n7 s3 s4 n8 n9 s5 s6 (L.map toA) kN N t 0 (ofBytes s) = kN (ofBytes (dmaMem t s L)) ∧ (dmaMem t s L).size = s.size := by
  rw [List.length_map]
  obtain ⟨h, h2⟩ := foldL (fun f i (z : ByteArray × ByteArray) => l_impl_DmaWrite_0 N b3 b4 (L.length : Int) n6 n7 s3 s4 n8 n9 s5 s6 (L.map toA) kN f z.1 i (ofBytes z.2)) L dmaPut (fun i z => z.2.size = s.size ∧ z.1.size = ((L.drop i).map (·.2)).sum) (fun z => kN (ofBytes z.2)) (fun f i z q hi hx hz => by
    have hx' : nth (L.map toA) i = some (toA q) := by rw [nth_map, hx]; rfl
    have hqq := hq q (by rw [nth_eq] at hx; exact List.mem_of_getElem? hx)
    obtain ⟨z1, z2⟩ := hz
    rw [drop_nth hx, List.map_cons, List.sum_cons] at z2
    have e1 : IntKind.wrap .i64 ((q.1 : Int) + (q.2 : Int)) = ((q.1 + q.2 : Nat) : Int) := by rw [w64 (by omega) (by omega)]; omega
    have e2 : IntKind.wrap .i64 ((i : Int) + 1) = ((i + 1 : Nat) : Int) := by rw [w64 (by omega) (by omega)]; omega
    have e3 : (z.1.extract 0 q.2).size = q.2 := by rw [ByteArray.size_extract]; omega
    have hsp : q.1 + (z.1.extract 0 q.2).size ≤ z.2.size := by omega
    refine ⟨?_, by unfold dmaPut; rw [splice_size hsp]; exact z1, by unfold dmaPut; simp only; rw [ByteArray.size_extract]; omega⟩
    rw [l_impl_DmaWrite_0, s_impl_DmaWrite_0, dec_lt hi, cond_true, dec_nn, List.length_map, dec_lt hi, Bool.and_self, cond_true, Int.toNat_natCast, elemK_some hx']
    unfold toA
    rw [e1, ofBytes_length, rng3 (show q.1 ≤ q.1 + q.2 by omega) (show q.1 + q.2 ≤ z.2.size by omega), cond_true, dec_nn, decide_eq_true (show (q.2 : Int) ≤ (z.1.size : Int) by omega), Bool.and_self, cond_true, Int.toNat_natCast, Int.toNat_natCast, Int.toNat_natCast, ofBytes_length, e3, Nat.add_sub_cancel_left, ble_t (Nat.le_refl _), cond_true, ble_t (show q.1 + q.2 ≤ z.2.size by omega), cond_true, decide_eq_true (show (z.1.size : Int) ≤ (z.1.size : Int) by omega), Bool.and_self, cond_true, Int.toNat_natCast, splice_bytes hsp, e2]
    rfl) (fun f z _ => by
    rw [l_impl_DmaWrite_0, s_impl_DmaWrite_0, dec_nlt, cond_false]) (s := (t, s)) ⟨rfl, ht.symm⟩ (f := N) (by omega)
  exact ⟨h, h2.1⟩

theorem spec_write_go {s t : ByteArray} {L : List (Nat × Nat)} (hs : s.size ≤ 65536) (hL : L.length ≤ 65536) (hq : ∀ q ∈ L, q.1 + q.2 ≤ s.size) (ht : (L.map (·.2)).sum = t.size) (b2 b3 : Bool) (n5 n6 n7 n8 : Int) (s4 s5 s6 : ByteArray) (hN : 2 ^ 40 < N) (kN : ByteArray → Option R) :
    l_spec_DmaWrite_0 N b2 b3 n5 n6 s4 s5 n7 n8 s6 (L.map (fun q => (q.1 : Int))) (L.map (fun q => (q.2 : Int))) kN N t 0 s = kN (dmaMem t s L) := by
  obtain ⟨h, _⟩ := foldL (fun f i (z : ByteArray × ByteArray) => l_spec_DmaWrite_0 N b2 b3 n5 n6 s4 s5 n7 n8 s6 (L.map (fun q => (q.1 : Int))) (L.map (fun q => (q.2 : Int))) kN f z.1 i z.2) L dmaPut (fun i z => z.2.size = s.size ∧ z.1.size = ((L.drop i).map (·.2)).sum) (fun z => kN z.2) (fun f i z q hi hx hz => by
    have hx1 : nth (L.map (fun q => (q.1 : Int))) i = some (q.1 : Int) := by rw [nth_map, hx]; rfl
    have hx2 : nth (L.map (fun q => (q.2 : Int))) i = some (q.2 : Int) := by rw [nth_map, hx]; rfl
    have hqq := hq q (by rw [nth_eq] at hx; exact List.mem_of_getElem? hx)
    obtain ⟨z1, z2⟩ := hz
    rw [drop_nth hx, List.map_cons, List.sum_cons] at z2
    have e1 : IntKind.wrap .i64 ((q.1 : Int) + (q.2 : Int)) = ((q.1 + q.2 : Nat) : Int) := by rw [w64 (by omega) (by omega)]; omega
    have e2 : IntKind.wrap .i64 ((i : Int) + 1) = ((i + 1 : Nat) : Int) := by rw [w64 (by omega) (by omega)]; omega
    have e3 : (z.1.extract 0 q.2).size = q.2 := by rw [ByteArray.size_extract]; omega
    have e4 : (z.2.extract 0 q.1).size = q.1 := by rw [ByteArray.size_extract]; omega
    have e5 : (z.2.extract (q.1 + q.2) z.2.size).size = z.2.size - (q.1 + q.2) := by rw [ByteArray.size_extract]; omega
    have hsp : q.1 + (z.1.extract 0 q.2).size ≤ z.2.size := by omega
    refine ⟨?_, by unfold dmaPut; rw [splice_size hsp]; exact z1, by unfold dmaPut; simp only; rw [ByteArray.size_extract]; omega⟩
    have e6 : (z.2.extract 0 q.1 ++ z.1.extract 0 q.2).size = q.1 + q.2 := by rw [ByteArray.size_append, e3, e4]
    simp -implicitDefEqProofs only [l_spec_DmaWrite_0, s_spec_DmaWrite_0, List.length_map, dec_lt hi, cond_true, dec_nn, Bool.and_self, Int.toNat_natCast, elemK_some hx1, elemK_some hx2, e1, decide_eq_true (show (q.1 : Int) ≤ (z.2.size : Int) by omega), decide_eq_true (show (q.2 : Int) ≤ (z.1.size : Int) by omega), decide_eq_true (show ((q.1 + q.2 : Nat) : Int) ≤ (z.2.size : Int) by omega), decide_eq_true (show (z.2.size : Int) ≤ (z.2.size : Int) by omega), decide_eq_true (show (z.1.size : Int) ≤ (z.1.size : Int) by omega), e3, e4, e5, e6, ble_t (show q.1 + q.2 ≤ 9223372036854775807 by omega), ble_t (show q.1 + q.2 + (z.2.size - (q.1 + q.2)) ≤ 9223372036854775807 by omega), e2]
    unfold dmaPut splice
    rw [e3]) (fun f z _ => by
    rw [l_spec_DmaWrite_0, s_spec_DmaWrite_0, List.length_map, dec_nlt, cond_false]) (s := (t, s)) ⟨rfl, ht.symm⟩ (f := N) (by omega)
  exact h

def dmaBad (s : ByteArray) (root a n : Int) : Bool := !memOk s || (!(decide (root ≥ 0) && decide (root ≤ 255)) || (!(decide (a ≥ 0) && decide (a ≤ 262143)) || (!(decide (n ≥ 0) && decide (n ≤ 65536)) || decide (n > 262144 - a))))

theorem dmaBad_facts {s : ByteArray} {root a n : Int} (h : dmaBad s root a n = false) : memOk s = true ∧ 0 ≤ root ∧ root ≤ 255 ∧ 0 ≤ a ∧ 0 ≤ n ∧ n ≤ 65536 ∧ a + n ≤ 262144 ∧ s.size % 256 = 0 ∧ s.size ≤ 65536 := by
  unfold dmaBad at h
  simp only [Bool.or_eq_false_iff, Bool.not_eq_false', Bool.and_eq_true, decide_eq_true_eq, decide_eq_false_iff_not] at h
  obtain ⟨h1, h2, h3, h4, h5⟩ := h
  have hm := h1
  unfold memOk at hm
  simp only [Bool.and_eq_true, decide_eq_true_eq] at hm
  have h6 : Int.tmod (s.size : Int) 256 = 0 := by simpa using hm.2.2
  rw [tmod_nn (by omega)] at h6
  exact ⟨h1, by omega, by omega, by omega, by omega, by omega, by omega, by omega, by omega⟩

theorem impl_ydma_eq {s : ByteArray} {root a n acc : Int} (ha : acc = 1 ∨ acc = 2 ∨ acc = 3) (hN : 2 ^ 40 < N) (h1 : dmaBad s root a n = false) :
    ∃ b', ∀ k : Bool → Bool → Int → Int → List Int → List A2i64 → Option R, g_impl_ydma N s root a n acc k = dmaK root.toNat acc n.toNat s a.toNat n.toNat (fun p => k true true 7 p [] []) (fun s' L => k false b' 0 0 (ofBytes s') (L.map toA)) := by
  obtain ⟨hm, h2, h3, h4, h5, h6, h7, h8, h9⟩ := dmaBad_facts h1
  obtain ⟨r, rfl⟩ := Int.eq_ofNat_of_zero_le h2
  obtain ⟨a, rfl⟩ := Int.eq_ofNat_of_zero_le h4
  obtain ⟨n, rfl⟩ := Int.eq_ofNat_of_zero_le h5
  obtain ⟨b', h⟩ := impl_ydma_go N (R := R) r acc (by omega) ha false 0 0 ⟨[].toArray⟩ ⟨[].toArray⟩ n n a N s true [] (by omega) (by omega) (by omega) h8 h9 (by simp; omega)
  refine ⟨b', fun k => ?_⟩
  unfold dmaBad at h1
  have ht : ∀ (a b c d e : Bool) (K : Bool → Option R), (!a || (!b || (!c || (!d || e)))) = false → (oK (cond (!a) (some true) (cond (!b) (some true) (cond (!c) (some true) (cond (!d) (some true) (some e))))) K) = K false := fun a b c d e K => by cases a <;> cases b <;> cases c <;> cases d <;> intro h <;> first | (rw [show e = false from h]; rfl) | cases h
  unfold g_impl_ydma
  simp -implicitDefEqProofs only [impl_ymemOk_eq, impl_yin_eq]
  rw [w64 (n := 262144 - (a : Int)) (by omega) (by omega), ht _ _ _ _ _ _ h1, cond_false]
  exact h _ (fun p => k true true 7 p [] []) _ (fun _ _ _ _ => rfl)

theorem impl_ydma_bad {s : ByteArray} {root a n acc : Int} (h1 : dmaBad s root a n = true) (k : Bool → Bool → Int → Int → List Int → List A2i64 → Option R) : g_impl_ydma N s root a n acc k = k true true 1 0 [] [] := by
  have h2 : (!memOk s || (!(decide (root ≥ 0) && decide (root ≤ 255)) || (!(decide (a ≥ 0) && decide (a ≤ 262143)) || (!(decide (n ≥ 0) && decide (n ≤ 65536)) || decide (n > IntKind.wrap .i64 (262144 - a)))))) = true := by
    by_cases h : decide (a ≥ 0) && decide (a ≤ 262143) = true
    · have h' := h
      simp only [Bool.and_eq_true, decide_eq_true_eq] at h'
      rw [w64 (by omega) (by omega)]; exact h1
    · rw [show (decide (a ≥ 0) && decide (a ≤ 262143)) = false by simpa using h, Bool.not_false, Bool.true_or, Bool.or_true, Bool.or_true]
  have ht : ∀ (a b c d e : Bool) (K : Bool → Option R), (!a || (!b || (!c || (!d || e)))) = true → (oK (cond (!a) (some true) (cond (!b) (some true) (cond (!c) (some true) (cond (!d) (some true) (some e))))) K) = K true := fun a b c d e K => by cases a <;> cases b <;> cases c <;> cases d <;> intro h <;> first | rfl | (rw [show e = true from h]; rfl)
  unfold g_impl_ydma
  simp -implicitDefEqProofs only [impl_ymemOk_eq, impl_yin_eq]
  rw [ht _ _ _ _ _ _ h2, cond_true]

theorem spec_l11_test (a b c d e f g h : Bool) (K : Bool → Option R) : (oK (cond ((cond a (0 : Int) 1) != 0) (some true) (cond b (some true) (cond c (some true) (cond d (some true) (cond e (some true) (cond f (some true) (cond g (some true) (some h)))))))) K) = K (!a || (b || (c || (d || (e || (f || (g || h))))))) := by
  cases a <;> cases b <;> cases c <;> cases d <;> cases e <;> cases f <;> cases g <;> rfl

theorem spec_bad_eq {s : ByteArray} {root a n : Int} : (!memOk s || (decide (root < 0) || (decide (root > 255) || (decide (a < 0) || (decide (a ≥ 262144) || (decide (n < 0) || (decide (n > 65536) || decide (IntKind.wrap .i64 (a + n) > 262144)))))))) = dmaBad s root a n := by
  unfold dmaBad
  cases memOk s with
  | false => rfl
  | true =>
    rw [Bool.not_true, Bool.false_or, Bool.false_or]
    by_cases h : (0 ≤ root ∧ root ≤ 255) ∧ (0 ≤ a ∧ a ≤ 262143) ∧ (0 ≤ n ∧ n ≤ 65536)
    · obtain ⟨⟨h1, h2⟩, ⟨h3, h4⟩, h5, h6⟩ := h
      rw [w64 (by omega) (by omega), decide_eq_false (show ¬ root < 0 by omega), decide_eq_false (show ¬ root > 255 by omega), decide_eq_false (show ¬ a < 0 by omega), decide_eq_false (show ¬ a ≥ 262144 by omega), decide_eq_false (show ¬ n < 0 by omega), decide_eq_false (show ¬ n > 65536 by omega), decide_eq_true (show root ≥ 0 by omega), decide_eq_true h2, decide_eq_true (show a ≥ 0 by omega), decide_eq_true h4, decide_eq_true (show n ≥ 0 by omega), decide_eq_true h6]
      simp only [Bool.false_or, Bool.and_self, Bool.not_true]
      exact decide_eq_decide.2 (by omega)
    · have e1 : (decide (root < 0) || (decide (root > 255) || (decide (a < 0) || (decide (a ≥ 262144) || (decide (n < 0) || decide (n > 65536)))))) = true := by
        simp only [Bool.or_eq_true, decide_eq_true_eq]; omega
      have e2 : (!(decide (root ≥ 0) && decide (root ≤ 255)) || (!(decide (a ≥ 0) && decide (a ≤ 262143)) || !(decide (n ≥ 0) && decide (n ≤ 65536)))) = true := by
        simp only [Bool.or_eq_true, Bool.not_eq_true', Bool.and_eq_false_iff, decide_eq_false_iff_not]; omega
      have c1 : ∀ a b c d e f g : Bool, (a || (b || (c || (d || (e || f))))) = true → (a || (b || (c || (d || (e || (f || g)))))) = true := by decide
      have c2 : ∀ a b c d : Bool, (a || (b || c)) = true → (a || (b || (c || d))) = true := by decide
      rw [c1 _ _ _ _ _ _ _ e1, c2 _ _ _ _ e2]

theorem spec_dma_eq {s : ByteArray} {root a n acc : Int} (ha : acc = 1 ∨ acc = 2 ∨ acc = 3) (hs : ¬ (s.size : Int) > 65536) (hN : 2 ^ 40 < N) (k : Int → Int → ByteArray → Bool → Bool → List Int → List Int → Option R) :
    g_spec_l11Dma N s root a n acc k = cond (dmaBad s root a n) (k 1 0 ⟨[].toArray⟩ true true [] []) (dmaK root.toNat acc n.toNat s a.toNat n.toNat (fun p => k 7 p ⟨[].toArray⟩ true true [] []) (fun s' L => k 0 0 s' false false (L.map (fun q => (q.1 : Int))) (L.map (fun q => (q.2 : Int))))) := by
  unfold g_spec_l11Dma
  rw [decide_eq_false hs, cond_false, spec_MemFault_eq, spec_l11_test, spec_bad_eq]
  cases h1 : dmaBad s root a n with
  | true => rfl
  | false =>
    obtain ⟨hm, h2, h3, h4, h5, h6, h7, h8, h9⟩ := dmaBad_facts h1
    obtain ⟨r, rfl⟩ := Int.eq_ofNat_of_zero_le h2
    obtain ⟨a, rfl⟩ := Int.eq_ofNat_of_zero_le h4
    obtain ⟨n, rfl⟩ := Int.eq_ofNat_of_zero_le h5
    rw [cond_false, cond_false]
    unfold c_spec_l11Dma_0
    exact spec_dma_go N r acc (by omega) ha 0 0 ⟨[].toArray⟩ ⟨[].toArray⟩ _ (fun p => k 7 p ⟨[].toArray⟩ true true [] []) (fun _ _ _ _ _ _ => rfl) n n a N s [] [] _ (by omega) (by omega) (by omega) hm h8 h9 (by simp; omega) (by simp; omega)


theorem spec_read_nil (s0 : ByteArray) (b2 b3 : Bool) (n6 n7 n8 n9 : Int) (s2 s3 : ByteArray) (hN : 2 ^ 40 < N) (kN : ByteArray → Option R) : l_spec_DmaRead_0 N b2 b3 n6 n7 s2 s3 n8 n9 s0 [] [] kN N 0 ⟨[].toArray⟩ = kN ⟨[].toArray⟩ := by
  obtain ⟨M, rfl⟩ : ∃ M, N = M + 1 := ⟨N - 1, by omega⟩
  rfl

theorem spec_write_nil (s0 t : ByteArray) (b2 b3 : Bool) (n6 n7 n8 n9 : Int) (s2 s3 s4 : ByteArray) (hN : 2 ^ 40 < N) (kN : ByteArray → Option R) : l_spec_DmaWrite_0 N b2 b3 n6 n7 s2 s3 n8 n9 s4 [] [] kN N t 0 s0 = kN s0 := by
  obtain ⟨M, rfl⟩ : ∃ M, N = M + 1 := ⟨N - 1, by omega⟩
  rfl

theorem ybig2_eq {t u : ByteArray} (hN : 2 ^ 40 < N) (k : Bool → Option R) : g_impl_ybig_w N false [t, u] k = k (decide ((t.size : Int) > 65536) || decide ((u.size : Int) > 65536)) := by
  obtain ⟨M, rfl⟩ : ∃ M, N = M + 3 := ⟨N - 3, by omega⟩
  unfold g_impl_ybig_w c_impl_ybig_w_0
  show cond (decide ((t.size : Int) > 65536)) (k true) (cond (decide ((u.size : Int) > 65536)) (k true) (k false)) = _
  cases decide ((t.size : Int) > 65536) <;> cases decide ((u.size : Int) > 65536) <;> rfl

inductive Seq (root : Nat) (acc : Int) : ByteArray → Nat → Nat → ByteArray → List (Nat × Nat) → Prop where
  | done (s : ByteArray) (a : Nat) : Seq root acc s a 0 s []
  | step {s s' : ByteArray} {a n : Nat} {L : List (Nat × Nat)} (h0 : 0 < n) (hf : (lk s root a acc).fault = 0) (h : Seq root acc (setWord s (lk s root a acc).entryAt.toNat (lk s root a acc).entry) (a + dm a n) (n - dm a n) s' L) : Seq root acc s a n s' (((lk s root a acc).pa.toNat, dm a n) :: L)

theorem dmaK_seq (root : Nat) (acc : Int) : ∀ (d n a : Nat) (s : ByteArray), n ≤ d →
    (∃ p : Int, ∀ (kR : Int → Option R) kN, dmaK root acc d s a n kR kN = kR p) ∨ (∃ (s' : ByteArray) (L : List (Nat × Nat)), Seq root acc s a n s' L ∧ ∀ (kR : Int → Option R) kN, dmaK root acc d s a n kR kN = kN s' L)
  | 0, n, a, s, hn => .inr ⟨s, [], by have : n = 0 := by omega
                                      subst this; exact .done s a, fun _ _ => rfl⟩
  | d + 1, n, a, s, hn => by
    by_cases h0 : 0 < n
    case neg =>
      have : n = 0 := by omega
      subst this
      exact .inr ⟨s, [], .done s a, fun kR kN => by rw [dmaK_succ, decide_eq_false h0, cond_false]⟩
    cases hf : ((lk s root a acc).fault != 0) with
    | true => exact .inl ⟨a, fun kR kN => by rw [dmaK_succ, decide_eq_true h0, cond_true, hf, cond_true]⟩
    | false =>
      have hf0 : (lk s root a acc).fault = 0 := by simpa using hf
      obtain ⟨d1, d2, d3⟩ := dm_facts (a := a) h0
      rcases dmaK_seq root acc d (n - dm a n) (a + dm a n) (setWord s (lk s root a acc).entryAt.toNat (lk s root a acc).entry) (by omega) with ⟨p, h⟩ | ⟨s', L, g1, h⟩
      · exact .inl ⟨p, fun kR kN => by rw [dmaK_succ, decide_eq_true h0, cond_true, hf, cond_false, h]⟩
      · exact .inr ⟨s', _, .step h0 hf0 g1, fun kR kN => by rw [dmaK_succ, decide_eq_true h0, cond_true, hf, cond_false, h]⟩

/-- The places where a transfer looks. -/
def posL : Nat → Nat → Nat → List (Nat × Nat)
  | 0, _, _ => []
  | d + 1, a, n => if 0 < n then (a, dm a n) :: posL d (a + dm a n) (n - dm a n) else []

theorem posL_more : ∀ (d e a n : Nat), n ≤ d → n ≤ e → posL d a n = posL e a n
  | 0, 0, _, _, _, _ => rfl
  | 0, e + 1, a, n, h, _ => by
    have : n = 0 := by omega
    subst this; rfl
  | d + 1, 0, a, n, _, h => by
    have : n = 0 := by omega
    subst this; rfl
  | d + 1, e + 1, a, n, h1, h2 => by
    unfold posL
    by_cases h0 : 0 < n
    · obtain ⟨d1, d2, d3⟩ := dm_facts (a := a) h0
      rw [if_pos h0, if_pos h0, posL_more d e _ _ (by omega) (by omega)]
    · rw [if_neg h0, if_neg h0]

theorem posL_step {a n : Nat} (h0 : 0 < n) : posL n a n = (a, dm a n) :: posL (n - dm a n) (a + dm a n) (n - dm a n) := by
  obtain ⟨d1, d2, d3⟩ := dm_facts (a := a) h0
  obtain ⟨m, rfl⟩ : ∃ m, n = m + 1 := ⟨n - 1, by omega⟩
  show (if 0 < m + 1 then _ else _) = _
  rw [if_pos h0, posL_more m _ _ _ (by omega) (Nat.le_refl _)]

theorem posL_mem : ∀ (d a n : Nat) (p : Nat × Nat), p ∈ posL d a n → a ≤ p.1 ∧ p.1 + p.2 ≤ a + n ∧ 0 < p.2 ∧ p.1 % 256 + p.2 ≤ 256
  | 0, _, _, p, h => by cases h
  | d + 1, a, n, p, h => by
    unfold posL at h
    by_cases h0 : 0 < n
    · obtain ⟨d1, d2, d3⟩ := dm_facts (a := a) h0
      rw [if_pos h0] at h
      rcases List.mem_cons.1 h with rfl | h
      · dsimp only; omega
      · have := posL_mem d _ _ p h; omega
    · rw [if_neg h0] at h; cases h

/-- All that a transfer's looks come to, told by the memory of the start. -/
theorem seq_facts {root : Nat} {acc : Int} {s0 : ByteArray} (h256 : s0.size % 256 = 0) : ∀ {s s' : ByteArray} {a n : Nat} {L : List (Nat × Nat)}, Seq root acc s a n s' L → flagEq s0 s → a + n ≤ 262144 →
    flagEq s0 s' ∧ (∀ p ∈ posL n a n, (lk s0 root p.1 acc).fault = 0) ∧ L = (posL n a n).map (fun p => ((lk s0 root p.1 acc).pa.toNat, p.2)) ∧
      ∀ f, f < s0.size / 256 → (∀ p ∈ posL n a n, ¬ (f : Int) ∈ framesOf (lk s0 root p.1 acc)) → frame s' f = frame s f := by
  intro s s' a n L h
  induction h with
  | done s a => intro hfl _; exact ⟨hfl, (fun p hp => by cases hp), rfl, fun _ _ _ => rfl⟩
  | @step s s' a n L h0 hf h ih =>
    intro hfl han
    obtain ⟨d1, d2, d3⟩ := dm_facts (a := a) h0
    obtain ⟨k1, k2, k3, k4⟩ := hfl.look (root := root) (va := a) (acc := acc) (u := true) (by omega)
    have hf0 : (lk s0 root a acc).fault = 0 := by rw [← hf]; exact k1.symm
    obtain ⟨f, t, i, _, _, _, hft, htt, hii, hpa, hea, htm, hen⟩ := look_tables (by omega) hf
    have hz : s.size = s0.size := hfl.1
    rw [show (lk s root a acc).entryAt = (ent t i : Nat) from hea, show (lk s root a acc).entry = (putE (wordN s (ent t i)) acc : Nat) from hen, Int.toNat_natCast] at ih
    obtain ⟨g1, g2, g3, g4⟩ := ih (hfl.trans (flagEq_set (by rw [hz]; exact h256) htt (by omega))) (by omega)
    rw [posL_step h0]
    refine ⟨g1, fun p hp => ?_, ?_, fun f' hf' hno => ?_⟩
    · rcases List.mem_cons.1 hp with rfl | hp
      · exact hf0
      · exact g2 p hp
    · rw [List.map_cons, g3]
      have : (lk s root a acc).pa = (lk s0 root a acc).pa := k2
      rw [this]
    · rw [g4 f' hf' fun p hp => hno p (List.mem_cons_of_mem _ hp)]
      refine frame_set (by rw [hz]; exact h256) htt (by omega) (by rw [hz]; exact hf') fun e => ?_
      subst e
      refine hno (a, dm a n) (List.mem_cons_self ..) ?_
      have : framesOf (lk s root a acc) = framesOf (lk s0 root a acc) := k4
      rw [← this]; exact htm


structure TRes where
  name : ByteArray
  rev : Int
  body : ByteArray
  code : Int

def TRes.out (t : TRes) (k : ByteArray → Int → ByteArray → Int → Option R) : Option R := k t.name t.rev t.body t.code

theorem splice_at {s w : ByteArray} {i j : Nat} (hi : i ≤ s.size) (hj : j < w.size) : bt (splice s i w) (i + j) = bt w j := by
  have e : (s.extract 0 i).size = i := by rw [ByteArray.size_extract]; omega
  unfold splice
  rw [ByteArray.append_assoc]
  have := bt_append_right (s := s.extract 0 i) (t := w ++ s.extract (i + w.size) s.size) j
  rw [e] at this
  rw [this, bt_append_left hj]

theorem splice_size2 {s w : ByteArray} {i : Nat} (h : i + w.size ≤ s.size) : (splice s i w).size = s.size := by
  unfold splice
  rw [ByteArray.size_append, ByteArray.size_append, ByteArray.size_extract, ByteArray.size_extract]; omega

theorem splice_ext {s w : ByteArray} {i a b : Nat} (h : i + w.size ≤ s.size) (hb : b ≤ w.size) : (splice s i w).extract (i + a) (i + b) = w.extract a b := by
  have hs := splice_size2 h
  refine bytes_ext (by rw [ByteArray.size_extract, ByteArray.size_extract, hs]; omega) fun j hj => ?_
  rw [ByteArray.size_extract, hs] at hj
  rw [bt_extract (by omega), bt_extract (by omega), show i + a + j = i + (a + j) by omega, splice_at (by omega) (by omega)]

theorem extract_self (s : ByteArray) {n : Nat} (h : n = s.size) : s.extract 0 n = s := by
  subst h
  refine bytes_ext (by rw [ByteArray.size_extract]; omega) fun j hj => ?_
  rw [ByteArray.size_extract] at hj
  rw [bt_extract (by omega), Nat.zero_add]

theorem bt_splice_out {s w : ByteArray} {p j : Nat} (h : p + w.size ≤ s.size) (hj : j < p ∨ p + w.size ≤ j) : bt (splice s p w) j = bt s j := by
  have hz : (s.extract 0 p).size = p := by rw [ByteArray.size_extract]; omega
  have hz2 : (s.extract 0 p ++ w).size = p + w.size := by rw [ByteArray.size_append, hz]
  rcases hj with hj | hj
  · unfold splice
    rw [bt_append_left (by omega), bt_append_left (by omega)]
    have := bt_extract (s := s) (a := 0) (b := p) (i := j) (by omega)
    rw [this, Nat.zero_add]
  · by_cases hs : j < s.size
    · obtain ⟨d, rfl⟩ : ∃ d, j = (p + w.size) + d := ⟨j - (p + w.size), by omega⟩
      unfold splice
      have := bt_append_right (s := s.extract 0 p ++ w) (t := s.extract (p + w.size) s.size) d
      rw [hz2] at this
      rw [this, bt_extract (by omega)]
    · rw [bt_ge (by rw [splice_size2 h]; omega), bt_ge (by omega)]

def inPage (m : Nat) (q : Nat × Nat) : Prop := q.1 + q.2 ≤ m ∧ q.1 % 256 + q.2 ≤ 256

theorem frame_splice {s w : ByteArray} {p f : Nat} (h : p + w.size ≤ s.size) (h2 : p % 256 + w.size ≤ 256) (hf : f * 256 + 256 ≤ s.size) (hne : f ≠ p / 256) : frame (splice s p w) f = frame s f := by
  have hz := splice_size2 h
  refine (frame_ext (by omega) (by omega)).2 fun j hj => bt_splice_out h ?_
  have : f < p / 256 ∨ p / 256 < f := by omega
  omega

theorem dmaMem_cons (t s : ByteArray) (q : Nat × Nat) (L : List (Nat × Nat)) : dmaMem t s (q :: L) = dmaMem (t.extract q.2 t.size) (splice s q.1 (t.extract 0 q.2)) L := rfl

theorem dmaMem_facts : ∀ (L : List (Nat × Nat)) (t s : ByteArray), (∀ q ∈ L, inPage s.size q) → (L.map (·.2)).sum = t.size → (dmaMem t s L).size = s.size ∧ ∀ f, f * 256 + 256 ≤ s.size → (∀ q ∈ L, f ≠ q.1 / 256) → frame (dmaMem t s L) f = frame s f
  | [], t, s, _, _ => ⟨rfl, fun _ _ _ => rfl⟩
  | q :: L, t, s, hq, ht => by
    rw [List.map_cons, List.sum_cons] at ht
    obtain ⟨h1, h2⟩ := hq q (List.mem_cons_self ..)
    have hw : (t.extract 0 q.2).size = q.2 := by rw [ByteArray.size_extract]; omega
    have hz : (splice s q.1 (t.extract 0 q.2)).size = s.size := splice_size2 (by omega)
    obtain ⟨g1, g2⟩ := dmaMem_facts L (t.extract q.2 t.size) (splice s q.1 (t.extract 0 q.2)) (fun r hr => by rw [hz]; exact hq r (List.mem_cons_of_mem _ hr)) (by rw [ByteArray.size_extract]; omega)
    rw [dmaMem_cons]
    refine ⟨by rw [g1, hz], fun f hf hno => ?_⟩
    rw [g2 f (by rw [hz]; exact hf) fun r hr => hno r (List.mem_cons_of_mem _ hr)]
    exact frame_splice (by omega) (by omega) hf (hno q (List.mem_cons_self ..))

theorem dmaData_eq (s : ByteArray) (L : List (Nat × Nat)) : dmaData s L = catB (L.map fun q => s.extract q.1 (q.1 + q.2)) := by
  unfold dmaData
  rw [foldl_append (fun q : Nat × Nat => s.extract q.1 (q.1 + q.2)), ba_empty_append]

theorem extract_frame {s t : ByteArray} {q : Nat × Nat} (hs : inPage s.size q) (ht : t.size = s.size) (h256 : s.size % 256 = 0) (hn : 0 < q.2) (h : frame s (q.1 / 256) = frame t (q.1 / 256)) : s.extract q.1 (q.1 + q.2) = t.extract q.1 (q.1 + q.2) := by
  obtain ⟨h1, h2⟩ := hs
  have hb := (frame_ext (s := s) (t := t) (f := q.1 / 256) (by omega) (by omega)).1 h
  refine bytes_ext (by rw [ByteArray.size_extract, ByteArray.size_extract]; omega) fun i hi => ?_
  rw [ByteArray.size_extract] at hi
  rw [bt_extract (by omega), bt_extract (by omega)]
  have := hb (q.1 % 256 + i) (by omega)
  rw [show q.1 / 256 * 256 + (q.1 % 256 + i) = q.1 + i by omega] at this
  exact this

theorem dmaData_frames {s t : ByteArray} {L : List (Nat × Nat)} (hq : ∀ q ∈ L, inPage s.size q ∧ 0 < q.2) (ht : t.size = s.size) (h256 : s.size % 256 = 0) (h : ∀ q ∈ L, frame s (q.1 / 256) = frame t (q.1 / 256)) : dmaData s L = dmaData t L := by
  rw [dmaData_eq, dmaData_eq]
  refine congrArg catB (List.map_congr_left fun q hm => ?_)
  obtain ⟨h1, h2⟩ := hq q hm
  exact extract_frame h1 ht h256 h2 (h q hm)

theorem extract_join (t : ByteArray) (n : Nat) : t.extract 0 n ++ t.extract n t.size = t := by
  refine bytes_ext (by rw [ByteArray.size_append, ByteArray.size_extract, ByteArray.size_extract]; omega) fun i hi => ?_
  rw [ByteArray.size_append, ByteArray.size_extract, ByteArray.size_extract] at hi
  by_cases h : i < min n t.size
  · rw [bt_append_left (by rw [ByteArray.size_extract]; omega), bt_extract (by omega), Nat.zero_add]
  · obtain ⟨d, hd⟩ : ∃ d, i = (t.extract 0 n).size + d := ⟨i - (t.extract 0 n).size, by rw [ByteArray.size_extract]; omega⟩
    subst hd
    have hz : (t.extract 0 n).size = min n t.size := by rw [ByteArray.size_extract]; omega
    rw [bt_append_right, bt_extract (by omega)]
    rw [hz] at hi ⊢
    by_cases hn : n ≤ t.size
    · rw [Nat.min_eq_left hn]
    · omega

theorem read_written : ∀ (L : List (Nat × Nat)) (t s : ByteArray), (∀ q ∈ L, inPage s.size q ∧ 0 < q.2) → (L.map (·.2)).sum = t.size → s.size % 256 = 0 → L.Pairwise (fun q r => q.1 / 256 ≠ r.1 / 256) → dmaData (dmaMem t s L) L = t
  | [], t, s, _, ht, _, _ => by
    have : t.size = 0 := by rw [← ht]; rfl
    refine bytes_ext (by rw [this]; rfl) fun i hi => ?_
    have : (dmaData (dmaMem t s []) []).size = 0 := rfl
    omega
  | q :: L, t, s, hq, ht, h256, hp => by
    rw [List.map_cons, List.sum_cons] at ht
    obtain ⟨⟨h1, h2⟩, h3⟩ := hq q (List.mem_cons_self ..)
    have hw : (t.extract 0 q.2).size = q.2 := by rw [ByteArray.size_extract]; omega
    have hz : (splice s q.1 (t.extract 0 q.2)).size = s.size := splice_size2 (by omega)
    have hq2 : ∀ r ∈ L, inPage (splice s q.1 (t.extract 0 q.2)).size r := fun r hr => by rw [hz]; exact (hq r (List.mem_cons_of_mem _ hr)).1
    have ht2 : (L.map (·.2)).sum = (t.extract q.2 t.size).size := by rw [ByteArray.size_extract]; omega
    obtain ⟨hpq, hpL⟩ := List.pairwise_cons.1 hp
    have ih := read_written L (t.extract q.2 t.size) (splice s q.1 (t.extract 0 q.2)) (fun r hr => ⟨hq2 r hr, (hq r (List.mem_cons_of_mem _ hr)).2⟩) ht2 (by rw [hz]; exact h256) hpL
    obtain ⟨g1, g2⟩ := dmaMem_facts L (t.extract q.2 t.size) (splice s q.1 (t.extract 0 q.2)) hq2 ht2
    rw [dmaMem_cons]
    generalize hM : dmaMem (t.extract q.2 t.size) (splice s q.1 (t.extract 0 q.2)) L = M at ih g1 g2
    have e1 : M.extract q.1 (q.1 + q.2) = t.extract 0 q.2 := by
      have hf := g2 (q.1 / 256) (by rw [hz]; omega) hpq
      have := extract_frame (s := M) (t := splice s q.1 (t.extract 0 q.2)) (q := q) (by rw [g1, hz]; exact ⟨h1, h2⟩) g1.symm (by rw [g1, hz]; exact h256) h3 hf
      rw [this]
      have h5 := splice_ext (s := s) (w := t.extract 0 q.2) (i := q.1) (a := 0) (b := q.2) (by omega) (by omega)
      rw [Nat.add_zero] at h5
      rw [h5]
      exact extract_self _ hw.symm
    rw [dmaData_eq] at ih ⊢
    rw [List.map_cons]
    show M.extract q.1 (q.1 + q.2) ++ catB _ = t
    rw [ih, e1, extract_join]


theorem posL_sum : ∀ (d a n : Nat), n ≤ d → ((posL d a n).map (·.2)).sum = n ∧ (posL d a n).length ≤ n
  | 0, a, n, h => by
    have : n = 0 := by omega
    subst this; exact ⟨rfl, Nat.le_refl _⟩
  | d + 1, a, n, h => by
    unfold posL
    by_cases h0 : 0 < n
    · obtain ⟨d1, d2, d3⟩ := dm_facts (a := a) h0
      obtain ⟨g1, g2⟩ := posL_sum d (a + dm a n) (n - dm a n) (by omega)
      rw [if_pos h0, List.map_cons, List.sum_cons, List.length_cons, g1]
      dsimp only
      omega
    · rw [if_neg h0]
      exact ⟨by show 0 = n; omega, Nat.zero_le _⟩

/-- The pieces of a transfer lie in pages. -/
theorem seq_pages {root : Nat} {acc : Int} {s s' : ByteArray} {a n : Nat} {L : List (Nat × Nat)} (h256 : s.size % 256 = 0) (han : a + n ≤ 262144) (h : Seq root acc s a n s' L) :
    s'.size = s.size ∧ (∀ q ∈ L, inPage s.size q ∧ 0 < q.2) ∧ (L.map (·.2)).sum = n ∧ L.length ≤ n := by
  obtain ⟨f1, f2, f3, _⟩ := seq_facts h256 h (flagEq.refl s) han
  obtain ⟨p1, p2⟩ := posL_sum n a n (Nat.le_refl _)
  refine ⟨f1.1, fun q hq => ?_, ?_, by rw [f3, List.length_map]; exact p2⟩
  · rw [f3] at hq
    obtain ⟨p, hp, rfl⟩ := List.mem_map.1 hq
    obtain ⟨m1, m2, m3, m4⟩ := posL_mem n a n p hp
    obtain ⟨f, t, i, _, _, _, hft, _, _, hpa, _⟩ := look_tables (s := s) (root := root) (va := p.1) (acc := acc) (u := true) (by omega) (f2 p hp)
    unfold inPage lk
    dsimp only
    rw [hpa, Int.toNat_natCast]
    omega
  · rw [f3, List.map_map]
    exact p1

theorem DmaWrite_form {s t : ByteArray} {root a : Int} (hN : 2 ^ 40 < N) :
    (∃ c p : Int, c ≠ 0 ∧ (∀ k : Int → Int → ByteArray → Option R, g_impl_DmaWrite N s root a t k = k c p ⟨[].toArray⟩) ∧ ∀ k : Int → Int → ByteArray → Option R, g_spec_DmaWrite N s root a t k = k c p ⟨[].toArray⟩) ∨
    (∃ (ro va : Nat) (s' : ByteArray) (L : List (Nat × Nat)), root = (ro : Int) ∧ a = (va : Int) ∧ ro ≤ 255 ∧ va + t.size ≤ 262144 ∧ Good s ∧ t.size ≤ 65536 ∧ Seq ro 2 s va t.size s' L ∧
      (∀ k : Int → Int → ByteArray → Option R, g_impl_DmaWrite N s root a t k = k 0 0 (dmaMem t s' L)) ∧ ∀ k : Int → Int → ByteArray → Option R, g_spec_DmaWrite N s root a t k = k 0 0 (dmaMem t s' L)) := by
  by_cases ht : (t.size : Int) > 65536
  · refine .inl ⟨2, 0, by decide, fun k => ?_, fun k => ?_⟩
    · unfold g_impl_DmaWrite
      rw [ybig2_eq N hN, decide_eq_true ht, Bool.or_true, cond_true]
    · unfold g_spec_DmaWrite
      rw [decide_eq_true ht, cond_true]
  by_cases hs : (s.size : Int) > 65536
  · refine .inl ⟨2, 0, by decide, fun k => ?_, fun k => ?_⟩
    · unfold g_impl_DmaWrite
      rw [ybig2_eq N hN, decide_eq_true hs, Bool.true_or, cond_true]
    · unfold g_spec_DmaWrite g_spec_l11Dma
      rw [decide_eq_false ht, cond_false, decide_eq_true hs, cond_true]
      exact spec_write_nil N _ _ _ _ _ _ _ _ _ _ _ hN _
  cases h1 : dmaBad s root a (t.size : Int) with
  | true =>
    refine .inl ⟨1, 0, by decide, fun k => ?_, fun k => ?_⟩
    · unfold g_impl_DmaWrite
      rw [ybig2_eq N hN, decide_eq_false hs, decide_eq_false ht, Bool.or_self, cond_false, impl_ydma_bad N h1]
      rfl
    · unfold g_spec_DmaWrite
      rw [decide_eq_false ht, cond_false, spec_dma_eq N (.inr (.inl rfl)) hs hN, h1, cond_true]
      exact spec_write_nil N _ _ _ _ _ _ _ _ _ _ _ hN _
  | false =>
    obtain ⟨hm, h2, h3, h4, h5, h6, h7, h8, h9⟩ := dmaBad_facts h1
    obtain ⟨b', hI⟩ := impl_ydma_eq N (R := R) (acc := 2) (.inr (.inl rfl)) hN h1
    obtain ⟨ro, rfl⟩ := Int.eq_ofNat_of_zero_le h2
    obtain ⟨va, rfl⟩ := Int.eq_ofNat_of_zero_le h4
    rw [Int.toNat_natCast, Int.toNat_natCast, Int.toNat_natCast] at hI
    rcases dmaK_seq (R := R) ro 2 t.size t.size va s (Nat.le_refl _) with ⟨p, hp⟩ | ⟨s', L, hseq, hp⟩
    · refine .inl ⟨7, p, by decide, fun k => ?_, fun k => ?_⟩
      · unfold g_impl_DmaWrite
        rw [ybig2_eq N hN, decide_eq_false hs, decide_eq_false ht, Bool.or_self, cond_false, hI, hp]
        rfl
      · unfold g_spec_DmaWrite
        rw [decide_eq_false ht, cond_false, spec_dma_eq N (.inr (.inl rfl)) hs hN, h1, cond_false, Int.toNat_natCast, Int.toNat_natCast, Int.toNat_natCast, hp]
        exact spec_write_nil N _ _ _ _ _ _ _ _ _ _ _ hN _
    · obtain ⟨g1, g2, g3, g4⟩ := seq_pages h8 (by omega) hseq
      have hq : ∀ q ∈ L, q.1 + q.2 ≤ s'.size := fun q hq => by rw [g1]; exact (g2 q hq).1.1
      refine .inr ⟨ro, va, s', L, rfl, rfl, by omega, by omega, ⟨hm, h9, h8⟩, by omega, hseq, fun k => ?_, fun k => ?_⟩
      · unfold g_impl_DmaWrite c_impl_DmaWrite_0
        rw [ybig2_eq N hN, decide_eq_false hs, decide_eq_false ht, Bool.or_self, cond_false, hI, hp]
        rw [show ((0 : Int) != 0) = false from rfl, cond_false, (impl_write_go N (by omega) (by omega) hq g3 _ _ _ _ _ _ _ _ _ _ hN _).1, Nat.zero_add, ble_t (Nat.le_refl _), cond_true, toBytes_all]
      · unfold g_spec_DmaWrite
        rw [decide_eq_false ht, cond_false, spec_dma_eq N (.inr (.inl rfl)) hs hN, h1, cond_false, Int.toNat_natCast, Int.toNat_natCast, Int.toNat_natCast, hp]
        exact spec_write_go N (by omega) (by omega) hq g3 _ _ _ _ _ _ _ _ _ hN _

theorem DmaRead_form {s : ByteArray} {ro va n : Nat} (hN : 2 ^ 40 < N) : ∃ (c p : Int) (d m : ByteArray), (∀ k : Int → Int → ByteArray → ByteArray → Option R, g_impl_DmaRead N s ro va n k = k c p d m) ∧ (∀ k : Int → Int → ByteArray → ByteArray → Option R, g_spec_DmaRead N s ro va n k = k c p d m) ∧
    (c = 0 → ∃ (s' : ByteArray) (L : List (Nat × Nat)), va + n ≤ 262144 ∧ Seq ro 1 s va n s' L ∧ d = dmaData s' L) := by
  by_cases hs : (s.size : Int) > 65536
  · refine ⟨2, 0, ⟨[].toArray⟩, ⟨[].toArray⟩, fun k => ?_, fun k => ?_, fun h => by cases h⟩
    · unfold g_impl_DmaRead
      rw [ybig_eq N hN, decide_eq_true hs, cond_true]
    · unfold g_spec_DmaRead g_spec_l11Dma
      rw [decide_eq_true hs, cond_true]
      exact spec_read_nil N _ _ _ _ _ _ _ _ _ hN _
  cases h1 : dmaBad s ro va n with
  | true =>
    refine ⟨1, 0, ⟨[].toArray⟩, ⟨[].toArray⟩, fun k => ?_, fun k => ?_, fun h => by cases h⟩
    · unfold g_impl_DmaRead
      rw [ybig_eq N hN, decide_eq_false hs, cond_false, impl_ydma_bad N h1]
      rfl
    · unfold g_spec_DmaRead
      rw [spec_dma_eq N (.inl rfl) hs hN, h1, cond_true]
      exact spec_read_nil N _ _ _ _ _ _ _ _ _ hN _
  | false =>
    obtain ⟨hm, h2, h3, h4, h5, h6, h7, h8, h9⟩ := dmaBad_facts h1
    obtain ⟨b', hI⟩ := impl_ydma_eq N (R := R) (acc := 1) (.inl rfl) hN h1
    rw [Int.toNat_natCast, Int.toNat_natCast, Int.toNat_natCast] at hI
    rcases dmaK_seq (R := R) ro 1 n n va s (Nat.le_refl _) with ⟨p, hp⟩ | ⟨s', L, hseq, hp⟩
    · refine ⟨7, p, ⟨[].toArray⟩, ⟨[].toArray⟩, fun k => ?_, fun k => ?_, fun h => by cases h⟩
      · unfold g_impl_DmaRead
        rw [ybig_eq N hN, decide_eq_false hs, cond_false, hI, hp]
        rfl
      · unfold g_spec_DmaRead
        rw [spec_dma_eq N (.inl rfl) hs hN, h1, cond_false, Int.toNat_natCast, Int.toNat_natCast, Int.toNat_natCast, hp]
        exact spec_read_nil N _ _ _ _ _ _ _ _ _ hN _
    · obtain ⟨g1, g2, g3, g4⟩ := seq_pages h8 (by omega) hseq
      have hq : ∀ q ∈ L, q.1 + q.2 ≤ s'.size := fun q hq => by rw [g1]; exact (g2 q hq).1.1
      refine ⟨0, 0, dmaData s' L, s', fun k => ?_, fun k => ?_, fun _ => ⟨s', L, by omega, hseq, rfl⟩⟩
      · unfold g_impl_DmaRead c_impl_DmaRead_0
        rw [ybig_eq N hN, decide_eq_false hs, cond_false, hI, hp]
        rw [show ((0 : Int) != 0) = false from rfl, cond_false, impl_read_go N (by omega) (by omega) hq _ _ _ _ _ _ _ _ _ hN, Nat.zero_add, ble_t (Nat.le_refl _), cond_true, toBytes_all]
      · unfold g_spec_DmaRead
        rw [spec_dma_eq N (.inl rfl) hs hN, h1, cond_false, Int.toNat_natCast, Int.toNat_natCast, Int.toNat_natCast, hp]
        exact spec_read_go N (by omega) (by omega) hq _ _ _ _ _ _ _ _ hN _

/-- A read behind a write gives back what was written. -/
theorem dma_back {ro va : Nat} {s s' m m' t : ByteArray} {L L2 : List (Nat × Nat)} (hg : Good s) (han : va + t.size ≤ 262144) (hw : Seq ro 2 s va t.size s' L) (hm : m = dmaMem t s' L) (hr : Seq ro 1 m va t.size m' L2)
    (hd : (L.map (·.1 / 256)).Pairwise (· ≠ ·)) (ht : ∀ p ∈ posL t.size va t.size, ∀ q ∈ L, ¬ ((q.1 / 256 : Nat) : Int) ∈ framesOf (lk s ro p.1 2)) : dmaData m' L2 = t := by
  obtain ⟨w1, w2, w3, w4⟩ := seq_facts hg.fr hw (flagEq.refl s) han
  obtain ⟨g1, g2, g3, g4⟩ := seq_pages hg.fr han hw
  obtain ⟨k1, k2⟩ := dmaMem_facts L t s' (fun q hq => by rw [g1]; exact (g2 q hq).1) g3
  rw [← hm] at k1 k2
  have hmz : m.size = s.size := by rw [k1, g1]
  have hm256 : m.size % 256 = 0 := by rw [hmz]; exact hg.fr
  obtain ⟨r1, r2, r3, r4⟩ := seq_facts hm256 hr (flagEq.refl m) han
  -- the looks of the read are those of the write
  have hlk : ∀ p ∈ posL t.size va t.size, (lk m ro p.1 1).pa = (lk s ro p.1 2).pa ∧ framesOf (lk m ro p.1 1) = framesOf (lk s ro p.1 2) := fun p hp => by
    have hpm := posL_mem _ _ _ p hp
    have hv : p.1 < 262144 := by omega
    obtain ⟨_, _, _, hro, hrm, hlm, _⟩ := look_tables (s := s) (root := ro) (va := p.1) (acc := 2) (u := true) hv (w2 p hp)
    have hfr : ∀ f, f < s.size / 256 → (f : Int) ∈ framesOf (lk s ro p.1 2) → ∀ i, i < 64 → wEq (wordN m (ent f i)) (wordN s (ent f i)) := fun f hf hmem i hi => by
      have h1 := k2 f (by rw [g1]; omega) (fun q hq he => ht p hp q hq (by rw [← he]; exact hmem))
      have h2 := word_frame (s := m) (t := s') (f := f) (i := i) (by rw [hmz]; omega) (by rw [g1]; omega) hi h1
      rw [h2]
      exact w1.2 f i hf hi
    obtain ⟨a1, a2, a3, a4⟩ := look_same (s := s) (t := m) (root := ro) (va := p.1) (acc := 2) (u := true) hmz (fun hr => hfr ro hr hrm _ (by omega)) (fun r hr _ hl hrs => hfr r hrs (by rw [hr]; exact hlm hl) _ (by omega))
    have hf2 : (look m ro p.1 2 true).fault = 0 := a1.trans (w2 p hp)
    obtain ⟨b1, b2, _⟩ := look_acc (s := m) (root := ro) (va := p.1) (acc := 1) (acc' := 2) (u := true) (r2 p hp) hf2
    exact ⟨b1.trans a2, b2.trans a4⟩
  have hL : L2 = L := by
    rw [r3, w3]
    exact List.map_congr_left fun p hp => by rw [(hlk p hp).1]
  have hq2 : ∀ q ∈ L, inPage m.size q ∧ 0 < q.2 := fun q hq => by rw [hmz]; exact g2 q hq
  have hmz' : m'.size = m.size := r1.1
  rw [hL]
  have hframes : ∀ q ∈ L, frame m (q.1 / 256) = frame m' (q.1 / 256) := fun q hq => by
    have hin := (g2 q hq).1
    unfold inPage at hin
    have hq0 := (g2 q hq).2
    have h256 := hg.fr
    refine (r4 (q.1 / 256) (by rw [hmz]; omega) fun p hp => ?_).symm
    rw [(hlk p hp).2]
    exact ht p hp q hq
  rw [← dmaData_frames hq2 hmz' hm256 hframes, hm]
  refine read_written L t s' (fun q hq => by rw [g1]; exact g2 q hq) g3 (by rw [g1]; exact hg.fr) ?_
  exact List.pairwise_map.1 hd


theorem src_n_shape (n : Int) (b : Bool) (p m z : Int) (l : List Int) : ∃ M : Int, ∀ k : Int → Int → Int → Option R, g_spec_l01Src_n_Wr N n b p m z l k = cond (decide (n ≤ 1)) (k 0 p m)
    (cond (decide (p < (l.length : Int))) (cond (decide (0 ≤ p) && decide (p < (l.length : Int))) (elemK l p.toNat fun x => cond (IntKind.wrap .u64 n == 0) none (k (IntKind.wrap .i64 (Int.tmod (IntKind.wrap .u64 (IntKind.wrap .u64 x + Int.fdiv M 1048576)) (IntKind.wrap .u64 n))) (IntKind.wrap .i64 (p + 1)) M)) none)
      (cond (IntKind.wrap .u64 n == 0) none (k (IntKind.wrap .i64 (Int.tmod (IntKind.wrap .u64 (0 + Int.fdiv M 1048576)) (IntKind.wrap .u64 n))) p M))) := ⟨_, fun _ => rfl⟩

theorem wu64_nn (n : Int) : 0 ≤ IntKind.wrap .u64 n := by
  unfold IntKind.wrap
  have hb : (2 : Int) ^ IntKind.u64.bits = 18446744073709551616 := by decide
  have hs : IntKind.u64.signed = false := rfl
  rw [hb, hs]
  simp only [Bool.false_and]
  rw [if_neg (by decide)]
  omega

/-- A drawn number. -/
theorem src_n {n : Int} {b : Bool} {p m z : Int} {l : List Int} (hn : n ≤ 2 ^ 62) (hl : l.length ≤ 2 ^ 30) (hp : 0 ≤ p ∧ p ≤ 2 ^ 40) :
    ∃ v p' m' : Int, 0 ≤ v ∧ (1 < n → v < n) ∧ (n ≤ 1 → v = 0) ∧ (0 ≤ p' ∧ p' ≤ 2 ^ 40) ∧ ∀ k : Int → Int → Int → Option R, g_spec_l01Src_n_Wr N n b p m z l k = k v p' m' := by
  obtain ⟨M, hM⟩ := src_n_shape (R := R) N n b p m z l
  by_cases h1 : n ≤ 1
  · exact ⟨0, p, m, Int.le_refl 0, fun h => by omega, fun _ => rfl, hp, fun k => by rw [hM, decide_eq_true h1, cond_true]⟩
  have hw : IntKind.wrap .u64 n = n := wu64 (by omega) (by omega)
  have h0 : (IntKind.wrap .u64 n == 0) = false := by rw [hw, beq_dec]; exact decide_eq_false (by omega)
  have key : ∀ X : Int, IntKind.wrap .i64 (Int.tmod (IntKind.wrap .u64 X) (IntKind.wrap .u64 n)) = IntKind.wrap .u64 X % n := by
    intro X
    have := wu64_nn X
    have h2 := Int.emod_nonneg (IntKind.wrap .u64 X) (show n ≠ 0 by omega)
    have h3 := Int.emod_lt_of_pos (IntKind.wrap .u64 X) (show 0 < n by omega)
    rw [hw, tmod_nn this, w64 (by omega) (by omega)]
  have bnd : ∀ X : Int, 0 ≤ IntKind.wrap .u64 X % n ∧ IntKind.wrap .u64 X % n < n := fun X => ⟨Int.emod_nonneg _ (by omega), Int.emod_lt_of_pos _ (by omega)⟩
  by_cases h2 : p < (l.length : Int)
  · obtain ⟨i, rfl⟩ := Int.eq_ofNat_of_zero_le hp.1
    obtain ⟨x, hx⟩ := nth_some (l := l) (n := i) (by omega)
    obtain ⟨b1, b2⟩ := bnd (IntKind.wrap .u64 x + Int.fdiv M 1048576)
    refine ⟨_, ((i + 1 : Nat) : Int), M, b1, fun _ => b2, fun h => by omega, by omega, fun k => ?_⟩
    rw [hM, decide_eq_false h1, cond_false, decide_eq_true h2, cond_true, dec_nn, Bool.and_self, cond_true, Int.toNat_natCast, elemK_some hx, h0, cond_false, key, w64 (n := (i : Int) + 1) (by omega) (by omega)]
    rfl
  · obtain ⟨b1, b2⟩ := bnd (0 + Int.fdiv M 1048576)
    exact ⟨_, p, M, b1, fun _ => b2, fun h => by omega, hp, fun k => by rw [hM, decide_eq_false h1, cond_false, decide_eq_false h2, cond_false, h0, cond_false, key]⟩

theorem src_one {n : Int} {b : Bool} {p m z : Int} {l : List Int} (hn : n ≤ 2 ^ 62) (hl : l.length ≤ 2 ^ 30) (hp : 0 ≤ p ∧ p ≤ 2 ^ 40) :
    ∃ (v : Bool) (p' m' : Int), (0 ≤ p' ∧ p' ≤ 2 ^ 40) ∧ ∀ k : Bool → Int → Int → Option R, g_spec_l01Src_one_Wr N n b p m z l k = k v p' m' := by
  obtain ⟨v, p', m', _, _, _, h, hk⟩ := src_n (R := R) N (b := b) (m := m) (z := z) hn hl hp
  exact ⟨_, p', m', h, fun k => by unfold g_spec_l01Src_one_Wr; rw [hk]⟩

/-- One of so many that are listed. -/
theorem pick_lit {T : Type} {L : List T} {v : Int} (h0 : 0 ≤ v) (h1 : v < (L.length : Int)) : ∃ x, x ∈ L ∧ ∀ K : T → Option R, elemK L v.toNat K = K x := by
  obtain ⟨i, rfl⟩ := Int.eq_ofNat_of_zero_le h0
  obtain ⟨x, hx⟩ := nth_some (l := L) (n := i) (by omega)
  exact ⟨x, nth_mem hx, fun K => by rw [Int.toNat_natCast, elemK_some hx]⟩

theorem in_rng {v n : Int} (h0 : 0 ≤ v) (h1 : v < n) : (decide (0 ≤ v) && decide (v < n)) = true := by rw [decide_eq_true h0, decide_eq_true h1]; rfl

theorem src_go {b1 b2 : Bool} {n1 n3 : Int} {l : List Int} (hl : l.length ≤ 2 ^ 30) : ∀ (d f i : Nat) (m : Int), i + d = l.length → d < f → ∃ m' : Int, ∀ kN : Int → Option R, l_spec_l01Source_r_0 N b1 l b2 n1 n3 kN f (i : Int) m = kN m' := by
  intro d
  induction d with
  | zero =>
    intro f i m hi hf
    obtain ⟨f, rfl⟩ : ∃ j, f = j + 1 := ⟨f - 1, by omega⟩
    refine ⟨m, fun kN => ?_⟩
    rw [l_spec_l01Source_r_0, s_spec_l01Source_r_0, decide_eq_false (show ¬ (i : Int) < (l.length : Int) by omega)]
    rfl
  | succ d ih =>
    intro f i m hi hf
    obtain ⟨f, rfl⟩ : ∃ j, f = j + 1 := ⟨f - 1, by omega⟩
    by_cases h : (i : Int) < 64
    · obtain ⟨x, hx⟩ := nth_some (l := l) (n := i) (by omega)
      have hlt : i < l.length := by omega
      obtain ⟨m', hm⟩ := ih f (i + 1) (IntKind.wrap .u64 ((IntKind.wrap .u64 (((BitVec.toNat ((BitVec.ofInt 64 m) ^^^ (BitVec.ofInt 64 (IntKind.wrap .u64 x)))) : Nat) : Int)) * (1099511628211 : Int))) (by omega) (by omega)
      refine ⟨m', fun kN => ?_⟩
      rw [l_spec_l01Source_r_0, s_spec_l01Source_r_0, dec_lt hlt, cond_true, oK_some_eq, decide_eq_true h, cond_true, dec_nn, Bool.and_self, cond_true, Int.toNat_natCast, elemK_some hx, wrap_next hlt (by omega)]
      exact hm kN
    · refine ⟨m, fun kN => ?_⟩
      rw [l_spec_l01Source_r_0, s_spec_l01Source_r_0, decide_eq_true (show (i : Int) < (l.length : Int) by omega), cond_true, oK_some_eq, decide_eq_false h, cond_false]

/-- A source. -/
theorem src_of {b : Bool} {l : List Int} (hl : l.length ≤ 2 ^ 30) (hN : 2 ^ 40 < N) : ∃ m z : Int, 0 ≤ z ∧ z ≤ 12 ∧ ∀ k : Int → Int → Option R, g_spec_l01Source_r N b l k = k m z := by
  obtain ⟨m, hm⟩ := src_go (R := R) N (b1 := b) (b2 := b) (n1 := 0) (n3 := 0) hl l.length N 0 88172645463325252 (by omega) (by omega)
  by_cases h : (l.length : Int) > 12
  · refine ⟨m, 12, by omega, by omega, fun k => ?_⟩
    unfold g_spec_l01Source_r c_spec_l01Source_r_0
    refine (hm _).trans ?_
    rw [decide_eq_true h, cond_true]
  · refine ⟨m, l.length, by omega, by omega, fun k => ?_⟩
    unfold g_spec_l01Source_r c_spec_l01Source_r_0
    refine (hm _).trans ?_
    rw [decide_eq_false h, cond_false]

theorem src_bytes_go {n4 n8 : Int} {b2 : Bool} {l : List Int} (hl : l.length ≤ 2 ^ 30) : ∀ (d f i : Nat) (p m : Int) (b1 : Bool) (L : List Int), (i : Int) + d = n4 → d < f → (0 ≤ p ∧ p ≤ 2 ^ 40) → L.length = i → i + d ≤ 2 ^ 30 →
    ∃ (b' : Bool) (p' m' : Int) (L' : List Int), (0 ≤ p' ∧ p' ≤ 2 ^ 40) ∧ L'.length = i + d ∧ ∀ kN : Bool → Int → Int → List Int → Option R, l_spec_l01Src_bytes_Wr_0 N n4 b2 n8 l kN f b1 (i : Int) p m L = kN b' p' m' L' := by
  intro d
  induction d with
  | zero =>
    intro f i p m b1 L hi hf hp hL hb
    obtain ⟨f, rfl⟩ : ∃ j, f = j + 1 := ⟨f - 1, by omega⟩
    refine ⟨b1, p, m, L, hp, by omega, fun kN => ?_⟩
    rw [l_spec_l01Src_bytes_Wr_0, s_spec_l01Src_bytes_Wr_0, decide_eq_false (show ¬ (i : Int) < n4 by omega), cond_false]
  | succ d ih =>
    intro f i p m b1 L hi hf hp hL hb
    obtain ⟨f, rfl⟩ : ∃ j, f = j + 1 := ⟨f - 1, by omega⟩
    obtain ⟨v, p1, m1, h0, h1, _, hp1, hv⟩ := src_n (R := R) N (n := 256) (b := b2) (m := m) (z := n8) (by omega) hl hp
    obtain ⟨b', p', m', L', hp', hL', hk⟩ := ih f (i + 1) p1 m1 (cond (Nat.beq 1 0) b1 false) (L ++ [IntKind.wrap .u8 v]) (by omega) (by omega) hp1 (by rw [List.length_append, List.length_singleton, hL]) (by omega)
    refine ⟨b', p', m', L', hp', by omega, fun kN => ?_⟩
    rw [l_spec_l01Src_bytes_Wr_0, s_spec_l01Src_bytes_Wr_0, decide_eq_true (show (i : Int) < n4 by omega), cond_true, hv, List.length_singleton, room (show (L.length + 1) * 1 ≤ 2 ^ 47 by omega) (by omega), cond_true, w64 (n := (i : Int) + 1) (by omega) (by omega)]
    exact hk kN

/-- Drawn bytes. -/
theorem src_bytes {n : Nat} {b : Bool} {p m z : Int} {l : List Int} (hn : n ≤ 2 ^ 30) (hl : l.length ≤ 2 ^ 30) (hp : 0 ≤ p ∧ p ≤ 2 ^ 40) (hN : 2 ^ 40 < N) :
    ∃ (s : ByteArray) (p' m' : Int), s.size = n ∧ (0 ≤ p' ∧ p' ≤ 2 ^ 40) ∧ ∀ k : ByteArray → Int → Int → Option R, g_spec_l01Src_bytes_Wr N (n : Int) b p m z l k = k s p' m' := by
  obtain ⟨b', p', m', L', hp', hL', hk⟩ := src_bytes_go (R := R) N (n4 := (n : Int)) (n8 := z) (b2 := b) hl n N 0 p m false [] (by omega) (by omega) hp rfl (by omega)
  refine ⟨toBytes L', p', m', by rw [toBytes_size]; omega, hp', fun k => ?_⟩
  unfold g_spec_l01Src_bytes_Wr c_spec_l01Src_bytes_Wr_0
  refine (hk _).trans ?_
  rw [Nat.zero_add, ble_t (Nat.le_refl _), cond_true, seg_all]

theorem maps_leaf {b1 : Bool} {n8 : Int} {L : List PageMap} (hL : L.length ≤ 100) (x : PageMap) (p m : Int) (ag : Bool → Int → Int → Int → List PageMap → Option R) :
    cond (roomOk (L.length + List.length [x]) 32) (ag (cond (Nat.beq (List.length [x]) 0) b1 false) (IntKind.wrap .i64 (n8 - 1)) p m (L ++ [x])) none = ag false (IntKind.wrap .i64 (n8 - 1)) p m (L ++ [x]) := by
  rw [List.length_singleton, room (by omega) (by omega), cond_true]
  rfl

theorem maps_step {n7 n11 n8 p m : Int} {b1 b2 b3 : Bool} {l1 l3 : List Int} {L : List PageMap} (h7 : n7 ≤ 2 ^ 62) (h3 : l3.length = 6) (hl : l1.length ≤ 2 ^ 30) (h8 : 0 < n8) (hL : L.length ≤ 100) (hp : 0 ≤ p ∧ p ≤ 2 ^ 40) :
    ∃ (x : PageMap) (p' m' : Int), (0 ≤ p' ∧ p' ≤ 2 ^ 40) ∧ ∀ (ag : Bool → Int → Int → Int → List PageMap → Option R) (kN : Bool → Int → Int → List PageMap → Option R),
      s_spec_l01Src_maps_Wr_0 N n7 b2 b3 n11 l1 l3 b1 n8 p m L ag kN = ag false (IntKind.wrap .i64 (n8 - 1)) p' m' (L ++ [x]) := by
  obtain ⟨v1, p1, m1, a0, a1, _, hp1, e1⟩ := src_n (R := R) N (n := 8) (b := b3) (m := m) (z := n11) (by omega) hl hp
  have a2 := a1 (by omega)
  obtain ⟨x, _, hk1⟩ := pick_lit (R := R) (L := [(0 : Int), (1 : Int), (2 : Int), (31 : Int), (32 : Int), (33 : Int), (64 : Int), (1023 : Int)]) a0 (by simpa using a2)
  obtain ⟨v2, p2, m2, _, _, _, hp2, e2⟩ := src_n (R := R) N (n := n7) (b := b3) (m := m1) (z := n11) h7 hl hp1
  obtain ⟨v3, p3, m3, c0, c1, _, hp3, e3⟩ := src_n (R := R) N (n := 6) (b := b3) (m := m2) (z := n11) (by omega) hl hp2
  have c2 : v3 < (l3.length : Int) := by have := c1 (by omega); omega
  obtain ⟨x1, _, hk3⟩ := pick_lit (R := R) (L := l3) c0 c2
  obtain ⟨b4, p4, m4, hp4, e4⟩ := src_one (R := R) N (n := 5) (b := b3) (m := m3) (z := n11) (by omega) hl hp3
  cases b4 with
  | true =>
    obtain ⟨v5, p5, m5, _, _, _, hp5, e5⟩ := src_n (R := R) N (n := 4) (b := b3) (m := m4) (z := n11) (by omega) hl hp4
    obtain ⟨v6, p6, m6, _, _, _, hp6, e6⟩ := src_n (R := R) N (n := 2) (b := b3) (m := m5) (z := n11) (by omega) hl hp5
    obtain ⟨v7, p7, m7, d0, d1, _, hp7, e7⟩ := src_n (R := R) N (n := 6) (b := b3) (m := m6) (z := n11) (by omega) hl hp6
    have d2 : v7 < (l3.length : Int) := by have := d1 (by omega); omega
    obtain ⟨x2, _, hk7⟩ := pick_lit (R := R) (L := l3) d0 d2
    obtain ⟨b8, p8, m8, hp8, e8⟩ := src_one (R := R) N (n := 20) (b := b3) (m := m7) (z := n11) (by omega) hl hp7
    cases b8 with
    | true =>
      obtain ⟨v9, p9, m9, _, _, _, hp9, e9⟩ := src_n (R := R) N (n := 3) (b := b3) (m := m8) (z := n11) (by omega) hl hp8
      exact ⟨⟨IntKind.wrap .i64 (v5 * 8192), IntKind.wrap .i64 (1023 - v9), x2, true⟩, p9, m9, hp9, fun ag kN => by
        rw [s_spec_l01Src_maps_Wr_0, decide_eq_true (show n8 > 0 from h8), cond_true, e1, in_rng a0 a2, cond_true, hk1, e2, e3, in_rng c0 c2, cond_true, hk3, e4, cond_true, e5, e6, e7, in_rng d0 d2, cond_true, hk7, e8, cond_true, e9, maps_leaf hL]⟩
    | false =>
      exact ⟨⟨IntKind.wrap .i64 (v5 * 8192), IntKind.wrap .i64 (32 * v6), x2, true⟩, p8, m8, hp8, fun ag kN => by
        rw [s_spec_l01Src_maps_Wr_0, decide_eq_true (show n8 > 0 from h8), cond_true, e1, in_rng a0 a2, cond_true, hk1, e2, e3, in_rng c0 c2, cond_true, hk3, e4, cond_true, e5, e6, e7, in_rng d0 d2, cond_true, hk7, e8, cond_false, maps_leaf hL]⟩
  | false =>
    obtain ⟨b8, p8, m8, hp8, e8⟩ := src_one (R := R) N (n := 20) (b := b3) (m := m4) (z := n11) (by omega) hl hp4
    cases b8 with
    | true =>
      obtain ⟨v9, p9, m9, _, _, _, hp9, e9⟩ := src_n (R := R) N (n := 3) (b := b3) (m := m8) (z := n11) (by omega) hl hp8
      exact ⟨⟨IntKind.wrap .i64 (x * 256), IntKind.wrap .i64 (1023 - v9), x1, false⟩, p9, m9, hp9, fun ag kN => by
        rw [s_spec_l01Src_maps_Wr_0, decide_eq_true (show n8 > 0 from h8), cond_true, e1, in_rng a0 a2, cond_true, hk1, e2, e3, in_rng c0 c2, cond_true, hk3, e4, cond_false, e8, cond_true, e9, maps_leaf hL]⟩
    | false =>
      exact ⟨⟨IntKind.wrap .i64 (x * 256), v2, x1, false⟩, p8, m8, hp8, fun ag kN => by
        rw [s_spec_l01Src_maps_Wr_0, decide_eq_true (show n8 > 0 from h8), cond_true, e1, in_rng a0 a2, cond_true, hk1, e2, e3, in_rng c0 c2, cond_true, hk3, e4, cond_false, e8, cond_false, maps_leaf hL]⟩

theorem maps_go {n7 n11 : Int} {b2 b3 : Bool} {l1 l3 : List Int} (h7 : n7 ≤ 2 ^ 62) (h3 : l3.length = 6) (hl : l1.length ≤ 2 ^ 30) : ∀ (d f : Nat) (b1 : Bool) (p m : Int) (L : List PageMap), d < f → L.length + d ≤ 100 → (0 ≤ p ∧ p ≤ 2 ^ 40) →
    ∃ (b' : Bool) (p' m' : Int) (L' : List PageMap), L'.length = L.length + d ∧ (0 ≤ p' ∧ p' ≤ 2 ^ 40) ∧ ∀ kN : Bool → Int → Int → List PageMap → Option R, l_spec_l01Src_maps_Wr_0 N n7 b2 b3 n11 l1 l3 kN f b1 (d : Int) p m L = kN b' p' m' L' := by
  intro d
  induction d with
  | zero =>
    intro f b1 p m L hf hL hp
    obtain ⟨f, rfl⟩ : ∃ j, f = j + 1 := ⟨f - 1, by omega⟩
    refine ⟨b1, p, m, L, rfl, hp, fun kN => ?_⟩
    rw [l_spec_l01Src_maps_Wr_0, s_spec_l01Src_maps_Wr_0, decide_eq_false (show ¬ ((0 : Nat) : Int) > 0 by omega), cond_false]
  | succ d ih =>
    intro f b1 p m L hf hL hp
    obtain ⟨f, rfl⟩ : ∃ j, f = j + 1 := ⟨f - 1, by omega⟩
    obtain ⟨x, p1, m1, hp1, e1⟩ := maps_step (R := R) N (n8 := ((d + 1 : Nat) : Int)) (b1 := b1) (b2 := b2) (b3 := b3) (m := m) (n11 := n11) (L := L) h7 h3 hl (by omega) (by omega) hp
    have e : IntKind.wrap .i64 (((d + 1 : Nat) : Int) - 1) = ((d : Nat) : Int) := by rw [w64 (by omega) (by omega)]; omega
    rw [e] at e1
    obtain ⟨b', p', m', L', a1, a2, a3⟩ := ih f false p1 m1 (L ++ [x]) (by omega) (by rw [List.length_append, List.length_singleton]; omega) hp1
    exact ⟨b', p', m', L', by rw [a1, List.length_append, List.length_singleton]; omega, a2, fun kN => by rw [l_spec_l01Src_maps_Wr_0, e1]; exact a3 kN⟩

theorem src_maps {n : Int} {b : Bool} {p m z : Int} {l : List Int} (hn : n ≤ 2 ^ 62) (hl : l.length ≤ 2 ^ 30) (hp : 0 ≤ p ∧ p ≤ 2 ^ 40) (hN : 2 ^ 40 < N) :
    ∃ (b' : Bool) (p' m' : Int) (L : List PageMap), 1 ≤ L.length ∧ L.length ≤ 7 ∧ (0 ≤ p' ∧ p' ≤ 2 ^ 40) ∧ ∀ k : Bool → Int → Int → List PageMap → Option R, g_spec_l01Src_maps_Wr N n b p m z l k = k b' p' m' L := by
  obtain ⟨v, p1, m1, a0, a1, _, hp1, e1⟩ := src_n (R := R) N (n := 7) (b := b) (m := m) (z := z) (by omega) hl hp
  have a2 := a1 (by omega)
  obtain ⟨d, rfl⟩ := Int.eq_ofNat_of_zero_le a0
  have e : IntKind.wrap .i64 (1 + (d : Int)) = ((1 + d : Nat) : Int) := by rw [w64 (by omega) (by omega)]; omega
  obtain ⟨b', p', m', L, c1, hp2, e2⟩ := maps_go (R := R) N (n7 := n) (n11 := z) (b2 := false) (b3 := b) (l3 := [(2 : Int), (6 : Int), (10 : Int), (22 : Int), (26 : Int), (158 : Int)]) hn rfl hl (1 + d) N false p1 m1 [] (by omega) (by simp; omega) hp1
  refine ⟨b', p', m', L, by rw [c1]; show 1 ≤ 0 + (1 + d); omega, by rw [c1]; show 0 + (1 + d) ≤ 7; omega, hp2, fun k => ?_⟩
  unfold g_spec_l01Src_maps_Wr c_spec_l01Src_maps_Wr_0
  rw [e1, e]
  exact e2 _


theorem cond_ex {A : Type} {t : Bool} {X Y : Option A} (hx : ∃ a, X = some a) (hy : ∃ a, Y = some a) : ∃ a, cond t X Y = some a := by
  cases t
  · exact hy
  · exact hx

theorem fdiv_nat (a : Nat) (b : Nat) (hb : 0 < b) : Int.fdiv (a : Int) (b : Int) = ((a / b : Nat) : Int) := by
  rw [Int.fdiv_eq_ediv_of_nonneg _ (by omega)]
  rfl

theorem at_eq {n v : Nat} (hn : n < 256) (hv : v < 262144) : IntKind.wrap .i64 (IntKind.wrap .i64 ((n : Int) * 256) + IntKind.wrap .i64 (4 * Int.fdiv (v : Int) 8192)) = ((n * 256 + 4 * (v / 8192) : Nat) : Int) := by
  have e := fdiv_nat v 8192 (by omega)
  have e' : Int.fdiv (v : Int) 8192 = ((v / 8192 : Nat) : Int) := e
  have hd : v / 8192 < 32 := by omega
  rw [e', w64 (n := (n : Int) * 256) (by omega) (by omega), w64 (n := 4 * ((v / 8192 : Nat) : Int)) (by omega) (by omega), w64 (by omega) (by omega)]
  omega

theorem ix_eq {v : Nat} (hv : v < 262144) : Int.tmod (Int.fdiv (v : Int) 256) 32 = ((v / 256 % 32 : Nat) : Int) := by
  have e' : Int.fdiv (v : Int) 256 = ((v / 256 : Nat) : Int) := fdiv_nat v 256 (by omega)
  rw [e', tmod_nn (by omega)]
  rfl

theorem at2_eq {t i : Nat} (ht : t < 2 ^ 40) (hi : i < 32) : IntKind.wrap .i64 (IntKind.wrap .i64 ((t : Int) * 256) + IntKind.wrap .i64 (4 * (i : Int))) = ((t * 256 + 4 * i : Nat) : Int) := by
  rw [w64 (n := (t : Int) * 256) (by omega) (by omega), w64 (n := 4 * (i : Int)) (by omega) (by omega), w64 (by omega) (by omega)]
  omega

/-- The last step: the entry of the page's table is written, if it is free. -/
theorem map_last {s : ByteArray} {e v : Nat} {w : Int} (hs : s.size ≤ 65536) (he : e < 2 ^ 40) (hv : v < 262144) : ∃ (s' : ByteArray) (c : Int), s'.size = s.size ∧ ∀ k : ByteArray → Int → Option R,
    (g_spec_l03Entry N s (Int.fdiv (e : Int) 256) (Int.tmod (Int.fdiv (v : Int) 256) 32) fun n6 b3 =>
      (oK (cond (!b3) (some true) (some (IntKind.wrap .i64 (((BitVec.toNat (BitVec.ofInt 64 n6 &&& BitVec.ofInt 64 1)) : Nat) : Int) != 0))) fun j4 =>
      cond j4 (k s 9)
      (g_spec_SetWord N s (IntKind.wrap .i64 (IntKind.wrap .i64 (Int.fdiv (e : Int) 256 * 256) + IntKind.wrap .i64 (4 * Int.tmod (Int.fdiv (v : Int) 256) 32))) w fun s4 => k s4 0))) = k s' c := by
  have e' : Int.fdiv (e : Int) 256 = ((e / 256 : Nat) : Int) := fdiv_nat e 256 (by omega)
  have hi : v / 256 % 32 < 32 := Nat.mod_lt _ (by omega)
  rw [e', ix_eq hv, at2_eq (by omega) hi]
  by_cases h : s.size / 256 ≤ e / 256
  · refine ⟨s, 9, rfl, fun k => ?_⟩
    rw [spec_l03Entry_no N (by omega) h]
    rfl
  · have hle : (e / 256 * 256 + 4 * (v / 256 % 32)) + 4 ≤ s.size := by omega
    cases hc : (IntKind.wrap .i64 (((BitVec.toNat (BitVec.ofInt 64 ((wordN s (ent (e / 256) (v / 256 % 32)) : Nat) : Int) &&& BitVec.ofInt 64 1)) : Nat) : Int) != 0) with
    | true =>
      refine ⟨s, 9, rfl, fun k => ?_⟩
      rw [spec_l03Entry_yes N hs hi h, Bool.not_true, cond_false, hc, oK_some_eq, cond_true]
    | false =>
      refine ⟨setWord s (e / 256 * 256 + 4 * (v / 256 % 32)) w, 0, setWord_size hle w, fun k => ?_⟩
      rw [spec_l03Entry_yes N hs hi h, Bool.not_true, cond_false, hc, oK_some_eq, cond_false, spec_SetWord_eq N hle hs]

def mapForm (n1 n2 n3 j : Int) (b : Bool) : Option Bool :=
  cond (j == 0) none (cond (Int.tmod n1 j != 0) (some true) (cond (decide (n2 < 0)) (some true) (cond (decide (n2 > 1023)) (some true)
    (cond b
      (cond (Int.tmod n2 32 != 0) (some true) (cond (IntKind.wrap .i64 (((BitVec.toNat (BitVec.ofInt 64 n3 &&& BitVec.ofInt 64 14)) : Nat) : Int) == 0) (some true) (some (n3 != IntKind.wrap .i64 (((BitVec.toNat (BitVec.ofInt 64 n3 &&& BitVec.ofInt 64 158)) : Nat) : Int)))))
      (cond (IntKind.wrap .i64 (((BitVec.toNat (BitVec.ofInt 64 n3 &&& BitVec.ofInt 64 14)) : Nat) : Int) == 0) (some true) (some (n3 != IntKind.wrap .i64 (((BitVec.toNat (BitVec.ofInt 64 n3 &&& BitVec.ofInt 64 158)) : Nat) : Int))))))))

theorem mapForm_ex (n1 n2 n3 j : Int) (b : Bool) (hj : j ≠ 0) : ∃ a, mapForm n1 n2 n3 j b = some a := by
  unfold mapForm
  rw [show (j == 0) = false by rw [beq_dec]; exact decide_eq_false hj, cond_false]
  exact cond_ex ⟨_, rfl⟩ (cond_ex ⟨_, rfl⟩ (cond_ex ⟨_, rfl⟩ (cond_ex (cond_ex ⟨_, rfl⟩ (cond_ex ⟨_, rfl⟩ ⟨_, rfl⟩)) (cond_ex ⟨_, rfl⟩ ⟨_, rfl⟩))))

theorem bne_t {x : Int} (h : (x != 0) = true) : (x == 0) = false := by
  cases hx : (x == 0) with
  | false => rfl
  | true => rw [bne, hx] at h; cases h

theorem bne_f {x : Int} (h : (x != 0) = false) : (x == 0) = true := by
  cases hx : (x == 0) with
  | true => rfl
  | false => rw [bne, hx] at h; cases h

theorem ble_max {a : Nat} (h : a ≤ 70000) : Nat.ble a 9223372036854775807 = true := by
  rw [ble_t]
  omega

theorem fr1 {y z : Nat} (hy : y < z / 256) (hz : z ≤ 65536) : y * 256 + 256 ≤ 70000 := by omega

theorem fr2 {y z : Nat} (hy : y < z / 256) (hz : z ≤ 65536) : y * 256 + 256 + (z - (y + 1) * 256) ≤ 70000 := by omega
end
end Go.Sa
