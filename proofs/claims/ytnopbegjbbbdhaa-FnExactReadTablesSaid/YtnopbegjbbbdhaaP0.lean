import Derived.Test.YtnopbegjbbbdhaaW1
set_option linter.all false
namespace Go.Sa
open Go Go.Eng
section
variable {R : Type} (N : Nat)
variable {R : Type}

theorem laws_eqFirmTable_eq (x y : FirmTable) (k : Bool → Option R) : g_laws_eqFirmTable N x.fName x.fRev x.fBody y.fName y.fRev y.fBody k = k (decide (x = y)) := by
  unfold g_laws_eqFirmTable
  by_cases h0 : x.fName = y.fName
  case neg =>
    rw [decide_eq_false (show ¬ x = y from fun e => h0 (by rw [e]))]
    simp only [bne_dec, beq_dec, h0, decide_false, Bool.not_false, cond_true]
  simp only [bne_dec, beq_dec, h0, decide_true, Bool.not_true, cond_false]
  by_cases h1 : x.fRev = y.fRev
  case neg =>
    rw [decide_eq_false (show ¬ x = y from fun e => h1 (by rw [e]))]
    simp only [bne_dec, beq_dec, h1, decide_false, Bool.not_false, cond_true]
  simp only [bne_dec, beq_dec, h1, decide_true, Bool.not_true, cond_false]
  by_cases h2 : x.fBody = y.fBody
  case neg =>
    rw [decide_eq_false (show ¬ x = y from fun e => h2 (by rw [e]))]
    simp only [bne_dec, beq_dec, h2, decide_false, Bool.not_false, cond_true]
  simp only [bne_dec, beq_dec, h2, decide_true, Bool.not_true, cond_false]
  rw [decide_eq_true (show x = y by cases x; cases y; simp_all)]

theorem laws_eqFirmTableS_ww_eq {l m : List FirmTable} {b b1 : Bool} (hl : l.length ≤ 2 ^ 40) (hN : 2 ^ 40 < N) (k : Bool → Option R) : g_laws_eqFirmTableS_ww N b b1 l m k = k (decide (l = m)) := by
  unfold g_laws_eqFirmTableS_ww
  by_cases h : l.length = m.length
  · rw [show ((l.length : Int) != (m.length : Int)) = false by simp [h]]
    unfold c_laws_eqFirmTableS_ww_0
    refine (eql (l_laws_eqFirmTableS_ww_0 N b b1 l m (k false) (k true)) l m h (k false) (k true) (fun f i x y hi hx hy => ?_) (fun f => ?_) (by omega)).trans ?_
    · simp only [l_laws_eqFirmTableS_ww_0, s_laws_eqFirmTableS_ww_0, dec_lt hi, dec_nn, Int.toNat_natCast, elemK_some hx, elemK_some hy, dec_lt (show i < m.length by omega), laws_eqFirmTable_eq, wrap_next hi (by omega), Bool.and_true, cond_true]
    · simp only [l_laws_eqFirmTableS_ww_0, s_laws_eqFirmTableS_ww_0, dec_nlt, cond_false]
    · cases decide (l = m) <;> rfl
  · rw [show ((l.length : Int) != (m.length : Int)) = true by simp; omega]
    rw [decide_eq_false (fun e => h (by rw [e]))]
    rfl

@[simp] theorem impl_yin_eq (a lo hi : Int) (k : Bool → Option R) : g_impl_yin N a lo hi k = k (decide (a ≥ lo) && decide (a ≤ hi)) := by
  simp [g_impl_yin]

def word (n : Int) : Int := n % 4294967296

def putWord (n : Int) : ByteArray := toBytes [word n % 256, word n / 256 % 256, word n / 65536 % 256, word n / 16777216 % 256]

theorem spec_l01Mod_eq {n m : Int} (hm : 0 < m) (hm2 : m ≤ 2 ^ 62) (k : Int → Option R) : g_spec_l01Mod N n m k = k (n % m) := by
  unfold g_spec_l01Mod
  obtain ⟨h1, h2⟩ := tmod_bound (n := n) hm
  rw [show (m == 0) = false by rw [beq_dec]; exact decide_eq_false (by omega), ← tmod_add (n := n) hm]
  by_cases h : n.tmod m < 0
  · rw [decide_eq_true h, if_pos h, w64 (by omega) (by omega)]; rfl
  · rw [decide_eq_false h, if_neg h]; rfl

theorem spec_Word_eq (n : Int) (k : Int → Option R) : g_spec_Word N n k = k (word n) := by
  unfold g_spec_Word
  rw [spec_l01Mod_eq N (by omega) (by omega)]
  rfl

def byteSum (s : ByteArray) : Int := (List.range s.size).foldl (fun a i => a + bt s i) 0

theorem spec_l21Bytes_eq {s : ByteArray} (hs : s.size ≤ 2 ^ 40) (hN : 2 ^ 40 < N) (k : Int → Option R) : g_spec_l21Bytes N s k = k (byteSum s) ∧ 0 ≤ byteSum s ∧ byteSum s ≤ 255 * s.size := by
  unfold g_spec_l21Bytes c_spec_l21Bytes_0
  obtain ⟨h1, h2, h3⟩ := fold (fun f i a => l_spec_l21Bytes_0 N s (fun n2 => k n2) f a i) s.size (fun i a => a + bt s i) (fun i a => 0 ≤ a ∧ a ≤ 255 * (i : Int)) k (fun f i a hi ha => by
      obtain ⟨b1, b2⟩ := bt_bound s i
      simp only [l_spec_l21Bytes_0, s_spec_l21Bytes_0, dec_lt hi, dec_nn, Int.toNat_natCast, wrap_next hi (by omega), Bool.and_true, cond_true, w64 (show -9223372036854775808 ≤ bt s i by omega) (show bt s i < 9223372036854775808 by omega), w64 (show -9223372036854775808 ≤ a + bt s i by omega) (show a + bt s i < 9223372036854775808 by omega)]
      exact ⟨trivial, by omega, by omega⟩) (fun f a ha => by
      simp only [l_spec_l21Bytes_0, s_spec_l21Bytes_0, dec_nlt, cond_false]) (s := 0) ⟨by omega, by omega⟩ (f := N) (by omega)
  exact ⟨h1, h2, h3⟩

theorem impl_ybyteSum_eq {s : ByteArray} (hs : s.size ≤ 2 ^ 40) (hN : 2 ^ 40 < N) (k : Int → Option R) : g_impl_ybyteSum N s k = k (byteSum s % 256) := by
  unfold g_impl_ybyteSum c_impl_ybyteSum_0
  obtain ⟨h1, h2, h3⟩ := fold (fun f i a => l_impl_ybyteSum_0 N s s.size (fun n3 => k (IntKind.wrap .i64 (((BitVec.ofInt 64 n3 &&& BitVec.ofInt 64 255).toNat : Nat) : Int))) f a i) s.size (fun i a => a + bt s i) (fun i a => 0 ≤ a ∧ a ≤ 255 * (i : Int)) (fun n3 => k (IntKind.wrap .i64 (((BitVec.ofInt 64 n3 &&& BitVec.ofInt 64 255).toNat : Nat) : Int))) (fun f i a hi ha => by
      obtain ⟨b1, b2⟩ := bt_bound s i
      simp only [l_impl_ybyteSum_0, s_impl_ybyteSum_0, dec_lt hi, dec_nn, Int.toNat_natCast, wrap_next hi (by omega), Bool.and_true, cond_true, w64 (show -9223372036854775808 ≤ bt s i by omega) (show bt s i < 9223372036854775808 by omega), w64 (show -9223372036854775808 ≤ a + bt s i by omega) (show a + bt s i < 9223372036854775808 by omega)]
      exact ⟨trivial, by omega, by omega⟩) (fun f a ha => by
      simp only [l_impl_ybyteSum_0, s_impl_ybyteSum_0, dec_nlt, cond_false]) (s := 0) ⟨by omega, by omega⟩ (f := N) (by omega)
  refine h1.trans ?_
  rw [and255]
  rfl

def wordAt (s : ByteArray) (i : Nat) : Int := bt s i + bt s (i + 1) * 256 + bt s (i + 2) * 65536 + bt s (i + 3) * 16777216

theorem wordAt_bound (s : ByteArray) (i : Nat) : 0 ≤ wordAt s i ∧ wordAt s i < 4294967296 := by
  have h0 := bt_bound s i
  have h1 := bt_bound s (i + 1)
  have h2 := bt_bound s (i + 2)
  have h3 := bt_bound s (i + 3)
  unfold wordAt
  omega

theorem spec_l01Word_eq {s : ByteArray} {i : Nat} (h : i + 4 ≤ s.size) (hs : s.size ≤ 2 ^ 60) (k : Int → Option R) : g_spec_l01Word N s (i : Int) k = k (wordAt s i) := by
  have h0 := bt_bound s i
  have h1 := bt_bound s (i + 1)
  have h2 := bt_bound s (i + 2)
  have h3 := bt_bound s (i + 3)
  have e1 : IntKind.wrap .i64 ((i : Int) + 1) = ((i + 1 : Nat) : Int) := by rw [w64 (by omega) (by omega)]; omega
  have e2 : IntKind.wrap .i64 ((i : Int) + 2) = ((i + 2 : Nat) : Int) := by rw [w64 (by omega) (by omega)]; omega
  have e3 : IntKind.wrap .i64 ((i : Int) + 3) = ((i + 3 : Nat) : Int) := by rw [w64 (by omega) (by omega)]; omega
  simp only [g_spec_l01Word, e1, e2, e3, dec_nn, dec_lt (show i < s.size by omega), dec_lt (show i + 1 < s.size by omega), dec_lt (show i + 2 < s.size by omega), dec_lt (show i + 3 < s.size by omega), Bool.and_true, cond_true, Int.toNat_natCast]
  rw [w64 (n := bt s i) (by omega) (by omega), w64 (n := bt s (i + 1)) (by omega) (by omega), w64 (n := bt s (i + 2)) (by omega) (by omega), w64 (n := bt s (i + 3)) (by omega) (by omega), w64 (n := bt s (i + 1) * 256) (by omega) (by omega), w64 (n := bt s (i + 2) * 65536) (by omega) (by omega), w64 (n := bt s (i + 3) * 16777216) (by omega) (by omega), w64 (n := bt s i + bt s (i + 1) * 256) (by omega) (by omega), w64 (n := bt s i + bt s (i + 1) * 256 + bt s (i + 2) * 65536) (by omega) (by omega), w64 (n := bt s i + bt s (i + 1) * 256 + bt s (i + 2) * 65536 + bt s (i + 3) * 16777216) (by omega) (by omega)]
  rfl

theorem or_word (a b c d : Int) (ha : 0 ≤ a ∧ a ≤ 255) (hb : 0 ≤ b ∧ b ≤ 255) (hc : 0 ≤ c ∧ c ≤ 255) (hd : 0 ≤ d ∧ d ≤ 255) :
    IntKind.wrap .i64 (((BitVec.ofInt 64 (IntKind.wrap .i64 (((BitVec.ofInt 64 (IntKind.wrap .i64 (((BitVec.ofInt 64 a ||| BitVec.ofInt 64 (b * 256)).toNat : Nat) : Int)) ||| BitVec.ofInt 64 (c * 65536)).toNat : Nat) : Int)) ||| BitVec.ofInt 64 (d * 16777216)).toNat : Nat) : Int) = a + b * 256 + c * 65536 + d * 16777216 := by
  have com : ∀ x y : Int, (BitVec.ofInt 64 x ||| BitVec.ofInt 64 y) = (BitVec.ofInt 64 y ||| BitVec.ofInt 64 x) := fun x y => BitVec.or_comm _ _
  have h1 := or_add (a := b * 256) (b := a) 8 (by omega) (by omega) (by omega) (by omega) (by omega)
  have h2 := or_add (a := c * 65536) (b := b * 256 + a) 16 (by omega) (by omega) (by omega) (by omega) (by omega)
  have h3 := or_add (a := d * 16777216) (b := c * 65536 + (b * 256 + a)) 24 (by omega) (by omega) (by omega) (by omega) (by omega)
  rw [com a, h1, com (b * 256 + a), h2, com (c * 65536 + (b * 256 + a)), h3]
  omega

theorem impl_ywordAt_eq {s : ByteArray} {i : Nat} (h : i + 4 ≤ s.size) (hs : s.size ≤ 2 ^ 60) (k : Int → Option R) : g_impl_ywordAt N s (i : Int) k = k (wordAt s i) := by
  have h0 := bt_bound s i
  have h1 := bt_bound s (i + 1)
  have h2 := bt_bound s (i + 2)
  have h3 := bt_bound s (i + 3)
  have e1 : IntKind.wrap .i64 ((i : Int) + 1) = ((i + 1 : Nat) : Int) := by rw [w64 (by omega) (by omega)]; omega
  have e2 : IntKind.wrap .i64 ((i : Int) + 2) = ((i + 2 : Nat) : Int) := by rw [w64 (by omega) (by omega)]; omega
  have e3 : IntKind.wrap .i64 ((i : Int) + 3) = ((i + 3 : Nat) : Int) := by rw [w64 (by omega) (by omega)]; omega
  simp only [g_impl_ywordAt, e1, e2, e3, dec_nn, dec_lt (show i < s.size by omega), dec_lt (show i + 1 < s.size by omega), dec_lt (show i + 2 < s.size by omega), dec_lt (show i + 3 < s.size by omega), Bool.and_true, cond_true, Int.toNat_natCast]
  rw [w64 (n := bt s i) (by omega) (by omega), w64 (n := bt s (i + 1)) (by omega) (by omega), w64 (n := bt s (i + 2)) (by omega) (by omega), w64 (n := bt s (i + 3)) (by omega) (by omega), w64 (n := bt s (i + 1) * 256) (by omega) (by omega), w64 (n := bt s (i + 2) * 65536) (by omega) (by omega), w64 (n := bt s (i + 3) * 16777216) (by omega) (by omega), or_word _ _ _ _ h0 h1 h2 h3]
  rfl

def wordSum (s : ByteArray) : Int := (List.range (s.size / 4)).foldl (fun a j => a + wordAt s (4 * j)) 0

theorem spec_l21Words_eq {s : ByteArray} (hs : s.size ≤ 2 ^ 30) (hN : 2 ^ 40 < N) (k : Int → Option R) : g_spec_l21Words N s k = k (wordSum s) ∧ 0 ≤ wordSum s ∧ wordSum s ≤ 4294967296 * (s.size / 4 : Nat) := by
  unfold g_spec_l21Words c_spec_l21Words_0
  obtain ⟨h1, h2, h3⟩ := fold (fun f i a => l_spec_l21Words_0 N s (fun n3 => k n3) f a (4 * i)) (s.size / 4) (fun j a => a + wordAt s (4 * j)) (fun i a => 0 ≤ a ∧ a ≤ 4294967296 * (i : Int)) k (fun f i a hi ha => by
      obtain ⟨b1, b2⟩ := wordAt_bound s (4 * i)
      have e4 : (4 * (i : Int)) = ((4 * i : Nat) : Int) := by omega
      have e5 : IntKind.wrap .i64 (((4 * i : Nat) : Int) + 4) = 4 * ((i + 1 : Nat) : Int) := by rw [w64 (by omega) (by omega)]; omega
      simp only [e4, l_spec_l21Words_0, s_spec_l21Words_0, e5, decide_eq_true (show 4 * ((i + 1 : Nat) : Int) ≤ (s.size : Int) by omega), spec_l01Word_eq N (show 4 * i + 4 ≤ s.size by omega) (by omega), cond_true, w64 (show -9223372036854775808 ≤ a + wordAt s (4 * i) by omega) (show a + wordAt s (4 * i) < 9223372036854775808 by omega)]
      exact ⟨trivial, by omega, by omega⟩) (fun f a ha => by
      have e4 : (4 * ((s.size / 4 : Nat) : Int)) = ((4 * (s.size / 4) : Nat) : Int) := by omega
      simp only [e4, l_spec_l21Words_0, s_spec_l21Words_0, w64 (show -9223372036854775808 ≤ ((4 * (s.size / 4) : Nat) : Int) + 4 by omega) (show ((4 * (s.size / 4) : Nat) : Int) + 4 < 9223372036854775808 by omega), decide_eq_false (show ¬ ((4 * (s.size / 4) : Nat) : Int) + 4 ≤ (s.size : Int) by omega), cond_false]) (s := 0) ⟨by omega, by omega⟩ (f := N) (by omega)
  exact ⟨h1, h2, h3⟩

theorem impl_Word_eq (n : Int) (k : Int → Option R) : g_impl_Word N n k = k (word n) := by
  unfold g_impl_Word
  rw [wu32, w64 (by omega) (by omega)]
  rfl

theorem impl_ywordSum_eq {s : ByteArray} (hs : s.size ≤ 2 ^ 30) (h4 : s.size % 4 = 0) (hN : 2 ^ 40 < N) (k : Int → Option R) : g_impl_ywordSum N s k = k (word (wordSum s)) := by
  unfold g_impl_ywordSum c_impl_ywordSum_0
  obtain ⟨h1, h2, h3⟩ := fold (fun f i a => l_impl_ywordSum_0 N s (fun n3 => g_impl_Word N n3 fun n4 => k n4) f a (4 * i)) (s.size / 4) (fun j a => a + wordAt s (4 * j)) (fun i a => 0 ≤ a ∧ a ≤ 4294967296 * (i : Int)) (fun n3 => g_impl_Word N n3 fun n4 => k n4) (fun f i a hi ha => by
      obtain ⟨b1, b2⟩ := wordAt_bound s (4 * i)
      have e4 : (4 * (i : Int)) = ((4 * i : Nat) : Int) := by omega
      have e5 : IntKind.wrap .i64 (((4 * i : Nat) : Int) + 4) = 4 * ((i + 1 : Nat) : Int) := by rw [w64 (by omega) (by omega)]; omega
      simp only [e4, l_impl_ywordSum_0, s_impl_ywordSum_0, e5, dec_lt (show 4 * i < s.size by omega), impl_ywordAt_eq N (show 4 * i + 4 ≤ s.size by omega) (by omega), cond_true, w64 (show -9223372036854775808 ≤ a + wordAt s (4 * i) by omega) (show a + wordAt s (4 * i) < 9223372036854775808 by omega)]
      exact ⟨trivial, by omega, by omega⟩) (fun f a ha => by
      have e4 : (4 * ((s.size / 4 : Nat) : Int)) = (s.size : Int) := by omega
      simp only [e4, l_impl_ywordSum_0, s_impl_ywordSum_0, dec_nlt, cond_false]) (s := 0) ⟨by omega, by omega⟩ (f := N) (by omega)
  refine h1.trans ?_
  rw [impl_Word_eq]
  rfl


def nameOk (s : ByteArray) : Bool := (s.size == 4) && !((List.range s.size).any fun i => decide (bt s i < 65) || decide (bt s i > 90))

theorem impl_ytableName_eq {s : ByteArray} (hs : s.size ≤ 2 ^ 40) (hN : 2 ^ 40 < N) (k : Bool → Option R) : g_impl_ytableName N s k = k (nameOk s) := by
  unfold g_impl_ytableName c_impl_ytableName_0 nameOk
  have hg : ((s.size : Int) == 4) = (s.size == 4) := by rw [Bool.eq_iff_iff]; simp; omega
  rw [hg, srch (l_impl_ytableName_0 N s s.size (k false) (k (s.size == 4))) s.size (fun i => decide (bt s i < 65) || decide (bt s i > 90)) (k false) (k (s.size == 4)) (fun f i hi => by
      simp only [l_impl_ytableName_0, s_impl_ytableName_0, dec_lt hi, dec_nn, Int.toNat_natCast, wrap_next hi (by omega), Bool.and_true, cond_true, cond_somes, oK_some_eq, Bool.cond_true_left]) (fun f => by
      simp only [l_impl_ytableName_0, s_impl_ytableName_0, dec_nlt, cond_false]) (by omega)]
  cases (List.range s.size).any fun i => decide (bt s i < 65) || decide (bt s i > 90)
  · simp
  · simp

theorem spec_l21Name_eq {s : ByteArray} (hN : 2 ^ 40 < N) (k : Bool → Option R) : g_spec_l21Name N s k = k (nameOk s) := by
  unfold g_spec_l21Name c_spec_l21Name_0 nameOk
  have hg : ((s.size : Int) != 4) = !(s.size == 4) := by rw [Bool.eq_iff_iff]; simp; omega
  rw [hg]
  by_cases h : s.size = 4
  · have e4 : (4 : Int) = ((4 : Nat) : Int) := rfl
    rw [h, srch (l_spec_l21Name_0 N s (k false) (k true)) 4 (fun i => decide (bt s i < 65) || decide (bt s i > 90)) (k false) (k true) (fun f i hi => by
      simp only [l_spec_l21Name_0, s_spec_l21Name_0, h, e4, dec_lt hi, dec_nn, Int.toNat_natCast, wrap_next hi (by omega), Bool.and_true, cond_true, cond_somes, oK_some_eq, Bool.cond_true_left]) (fun f => by
      simp only [l_spec_l21Name_0, s_spec_l21Name_0, e4, dec_nlt, cond_false]) (by omega)]
    cases (List.range 4).any fun i => decide (bt s i < 65) || decide (bt s i > 90) <;> rfl
  · rw [show (s.size == 4) = false by simpa using h]; rfl

def memOk (s : ByteArray) : Bool := decide ((s.size : Int) ≥ 256) && (decide ((s.size : Int) ≤ 65536) && (Int.tmod (s.size : Int) 256 == 0))

theorem impl_ymemOk_eq (s : ByteArray) (k : Bool → Option R) : g_impl_ymemOk N s k = k (memOk s) := by
  unfold g_impl_ymemOk memOk
  cases decide ((s.size : Int) ≥ 256) <;> cases decide ((s.size : Int) ≤ 65536) <;> rfl

theorem spec_MemFault_eq (s : ByteArray) (k : Int → Option R) : g_spec_MemFault N s k = k (cond (memOk s) 0 1) := by
  have e : ((s.size : Int) == 0 || (Int.tmod (s.size : Int) 256 != 0 || decide ((s.size : Int) > 65536))) = !memOk s := by
    unfold memOk
    rw [Int.tmod_eq_emod_of_nonneg (by omega), Bool.eq_iff_iff]
    have h0 : (0 : Int) ≤ (s.size : Int) := by omega
    generalize (s.size : Int) = m at h0 ⊢
    simp
    omega
  unfold g_spec_MemFault
  simp only [cond_somes, oK_some_eq, Bool.cond_true_left, e]
  cases memOk s <;> rfl

def fitsAt (m n t : Int) : Bool := decide (n ≥ 0) && (decide (t ≥ 0) && (decide (n ≤ m) && decide (t ≤ IntKind.wrap .i64 (m - n))))

theorem impl_yfits_eq (m n t : Int) (k : Bool → Option R) : g_impl_yfits N m n t k = k (fitsAt m n t) := by
  unfold g_impl_yfits fitsAt
  cases decide (n ≥ 0) <;> cases decide (t ≥ 0) <;> cases decide (n ≤ m) <;> rfl

theorem spec_l10In_eq (s : ByteArray) (n t : Int) (k : Bool → Option R) : g_spec_l10In N s n t k = k (fitsAt s.size n t) := by
  unfold g_spec_l10In fitsAt
  cases decide (n ≥ 0) <;> cases decide (t ≥ 0) <;> cases decide (n ≤ (s.size : Int)) <;> rfl

theorem fits_nat {m : Nat} {n t : Int} (hm : m ≤ 2 ^ 60) (h : fitsAt m n t = true) : 0 ≤ n ∧ 0 ≤ t ∧ n + t ≤ m := by
  unfold fitsAt at h
  simp only [Bool.and_eq_true, decide_eq_true_eq] at h
  obtain ⟨h1, h2, h3, h4⟩ := h
  rw [w64 (by omega) (by omega)] at h4
  omega

theorem rng3 {a b c : Nat} (h1 : a ≤ b) (h2 : b ≤ c) : ((decide ((0 : Int) ≤ (a : Int)) && decide ((a : Int) ≤ (b : Int))) && decide ((b : Int) ≤ (c : Int))) = true := by
  rw [decide_eq_true (show (0 : Int) ≤ (a : Int) by omega), decide_eq_true (show (a : Int) ≤ (b : Int) by omega), decide_eq_true (show (b : Int) ≤ (c : Int) by omega)]; rfl

theorem ybig_eq {t : ByteArray} (hN : 2 ^ 40 < N) (k : Bool → Option R) : g_impl_ybig_w N false [t] k = k (decide ((t.size : Int) > 65536)) := by
  obtain ⟨M, rfl⟩ : ∃ M, N = M + 2 := ⟨N - 2, by omega⟩
  unfold g_impl_ybig_w c_impl_ybig_w_0
  have hx : nth [t] 0 = some t := rfl
  show cond (decide ((t.size : Int) > 65536)) (k true) (k false) = _
  cases decide ((t.size : Int) > 65536) <;> rfl

def dvB (x : Device) (p : Bool) : Bool :=
  !(decide (x.fKind ≥ 1) && decide (x.fKind ≤ 255)) || (!(decide (x.fPort ≥ 0) && decide (x.fPort ≤ 2047)) || (!(decide (x.fLine ≥ 0) && decide (x.fLine ≤ 6)) || p))

def dvBad (l : List Device) (i : Nat) : Bool :=
  match nth l i with
  | none => true
  | some x => dvB x (prevIs (fun y x => decide (y.fPort ≥ x.fPort)) l i x)

def boardFault (fr cp : Int) (l : List Device) : Int :=
  cond (!(decide (fr ≥ 2) && decide (fr ≤ 256)) || (!(decide (cp ≥ 1) && decide (cp ≤ 8)) || decide (l.length > 16))) 1 (cond ((List.range l.length).any (dvBad l)) 1 0)

theorem markText_loop (k : ByteArray → Option R) : ∀ (f f' : Nat) (n : Int) (s : ByteArray), 0 ≤ n → n < 10 ^ f → n < 2 ^ 60 → f < f' → s.size + f ≤ 1000 → l_laws_markText_0 N k f' n s = k (mtGo f n s) := by
  intro f
  induction f with
  | zero =>
    intro f' n s h0 h1 _ hf hs
    obtain ⟨f', rfl⟩ : ∃ j, f' = j + 1 := ⟨f' - 1, by omega⟩
    have : n = 0 := by simp at h1; omega
    subst this
    rfl
  | succ f ih =>
    intro f' n s h0 h1 h2 hf hs
    obtain ⟨f', rfl⟩ : ∃ j, f' = j + 1 := ⟨f' - 1, by omega⟩
    unfold mtGo
    by_cases hn : 0 < n
    · have hd : n.tdiv 10 = n / 10 := Int.tdiv_eq_ediv_of_nonneg h0
      have hsz : (toBytes [IntKind.wrap .u8 (IntKind.wrap .i64 (48 + Int.tmod n 10))]).size = 1 := toBytes_size _
      rw [Int.pow_succ] at h1
      simp only [l_laws_markText_0, s_laws_markText_0, decide_eq_true (show n > 0 from hn), seg_all, hsz, ble_t (show 1 + s.size ≤ 9223372036854775807 by omega), cond_true, hd, w64 (show -9223372036854775808 ≤ n / 10 by omega) (show n / 10 < 9223372036854775808 by omega)]
      rw [if_pos hn]
      refine ih f' (n / 10) _ (by omega) (by omega) (by omega) (by omega) ?_
      rw [ByteArray.size_append, hsz]; omega
    · have : n = 0 := by omega
      subst this
      rw [if_neg hn]
      rfl

theorem markText_eq {n : Int} (h1 : 1 ≤ n) (h2 : n < 2 ^ 60) (hN : 2 ^ 40 < N) (k : ByteArray → Option R) : g_laws_markText N n k = k (mt n) := by
  unfold g_laws_markText c_laws_markText_0
  rw [decide_eq_false (by omega), cond_false, markText_loop N _ 20 N n _ (by omega) (Int.lt_trans h2 (by decide)) h2 (by omega) (by decide)]
  have := mtGo_size 20 n ⟨[].toArray⟩
  have h0 : (⟨[].toArray⟩ : ByteArray).size = 0 := rfl
  rw [ble_t (show 1 + (mtGo 20 n ⟨[].toArray⟩).size ≤ 9223372036854775807 by omega)]
  rfl

def rowFirmTable (k : Int) : FirmTable := ⟨mt (k), k + 1, mt (k + 2)⟩

def rowsFirmTable (k : Int) (n : Nat) : List FirmTable := (List.range n).map fun (i : Nat) => rowFirmTable (k + 3 * (i : Int))

theorem nth_rowsFirmTable (k : Int) {n i : Nat} (h : i < n) : nth (rowsFirmTable k n) i = some (rowFirmTable (k + 3 * (i : Int))) := by
  unfold rowsFirmTable
  rw [nth_map, nth_eq, List.getElem?_range h]
  rfl

theorem rowsFirmTable_length (k : Int) (n : Nat) : (rowsFirmTable k n).length = n := by simp [rowsFirmTable]

theorem laws_markFirmTableS_w_eq {l : List FirmTable} {b : Bool} {k : Int} (hl : l.length ≤ 2 ^ 40) (hk : 1 ≤ k) (hk2 : k ≤ 2 ^ 50) (hN : 2 ^ 40 < N) (K : Int → List FirmTable → Option R) : g_laws_markFirmTableS_w N b k l K = K (k + 3 * (l.length : Int)) (rowsFirmTable k l.length) := by
  unfold g_laws_markFirmTableS_w c_laws_markFirmTableS_w_0
  obtain ⟨h1, h2, h3, h4⟩ := fold (fun f i (s : Int × List FirmTable) => l_laws_markFirmTableS_w_0 N b (fun n l => K n l) f s.1 i s.2) l.length (fun i s => (s.1 + 3, nset s.2 i (rowFirmTable s.1))) (fun i s => s.1 = k + 3 * (i : Int) ∧ s.2.length = l.length ∧ ∀ j : Nat, j < i → nth s.2 j = some (rowFirmTable (k + 3 * (j : Int)))) (fun s => K s.1 s.2)
    (fun f i s0 hi hs => by
      obtain ⟨s, ys⟩ := s0
      obtain ⟨hs1, hs2, hs3⟩ := hs
      dsimp only at hs1 hs2 hs3
      obtain ⟨x, hx⟩ := nth_some (l := ys) (n := i) (by omega)
      have e1 : IntKind.wrap .i64 (s + 1) = s + 1 := by rw [w64 (by omega) (by omega)]
      have e2 : IntKind.wrap .i64 (s + 1 + 1) = s + 2 := by rw [w64 (by omega) (by omega)]; omega
      have e3 : IntKind.wrap .i64 (s + 2 + 1) = s + 3 := by rw [w64 (by omega) (by omega)]; omega
      have m0 : ∀ K : ByteArray → Option R, g_laws_markText N (s) K = K (mt (s)) := fun K => markText_eq N (by omega) (by omega) hN K
      have m2 : ∀ K : ByteArray → Option R, g_laws_markText N (s + 2) K = K (mt (s + 2)) := fun K => markText_eq N (by omega) (by omega) hN K
      refine ⟨?_, by dsimp only; omega, by simpa using hs2, fun j hj => ?_⟩
      · simp only [l_laws_markFirmTableS_w_0, s_laws_markFirmTableS_w_0, dec_lt hi, dec_lt (show i < ys.length by omega), dec_nn, Int.toNat_natCast, hs2, nset_length, elemK_some hx, elemK_nset (show i < ys.length by omega), nset_nset, blt_t hi, blt_t (show i < ys.length by omega), wrap_next hi (by omega), Bool.and_true, cond_true, e1, e2, e3, m0, m2]
        rfl
      · dsimp only
        rw [nth_nset]
        split
        · rename_i hc; obtain ⟨rfl, _⟩ := hc; rw [hs1]
        · rename_i hc; exact hs3 j (by have : j ≠ i := fun e => hc ⟨e, by omega⟩; omega))
    (fun f s0 hs => by
      obtain ⟨s, ys⟩ := s0
      obtain ⟨hs1, hs2, hs3⟩ := hs
      dsimp only at hs2
      simp only [l_laws_markFirmTableS_w_0, s_laws_markFirmTableS_w_0, hs2, dec_nlt, cond_false]) (s := (k, l)) ⟨by simp, rfl, fun j hj => by omega⟩ (f := N) (by omega)
  refine h1.trans ?_
  rw [h2]
  congr 1
  refine ext_nth fun j => ?_
  rcases Nat.lt_or_ge j l.length with hj | hj
  · rw [h4 j hj, nth_rowsFirmTable k hj]
  · rw [nth_none (by rw [h3]; exact hj), nth_none (by rw [rowsFirmTable_length]; exact hj)]

theorem laws_heldFirmTableS_w_eq {n : Nat} {b : Bool} {k : Int} (hl : n ≤ 2 ^ 40) (hk : 1 ≤ k) (hk2 : k ≤ 2 ^ 50) (hN : 2 ^ 40 < N) (K : Int → Option R) : g_laws_heldFirmTableS_w N b k (rowsFirmTable k n) K = K (k + 3 * (n : Int)) := by
  unfold g_laws_heldFirmTableS_w c_laws_heldFirmTableS_w_0
  obtain ⟨h1, h2⟩ := fold (fun f i (s : Int) => l_laws_heldFirmTableS_w_0 N b (rowsFirmTable k n) (fun _ => K (-1)) (fun n => K n) f s i) n (fun _ s => s + 3) (fun i s => s = k + 3 * (i : Int)) (fun s => K s)
    (fun f i s hi hs => by
      have hr : rowFirmTable (k + 3 * (i : Int)) = rowFirmTable s := by rw [hs]
      have hx : nth (rowsFirmTable k n) i = some (rowFirmTable s) := by rw [nth_rowsFirmTable k hi, hr]
      have e1 : IntKind.wrap .i64 (s + 1) = s + 1 := by rw [w64 (by omega) (by omega)]
      have e2 : IntKind.wrap .i64 (s + 1 + 1) = s + 2 := by rw [w64 (by omega) (by omega)]; omega
      have e3 : IntKind.wrap .i64 (s + 2 + 1) = s + 3 := by rw [w64 (by omega) (by omega)]; omega
      have m0 : ∀ K : ByteArray → Option R, g_laws_markText N (s) K = K (mt (s)) := fun K => markText_eq N (by omega) (by omega) hN K
      have m2 : ∀ K : ByteArray → Option R, g_laws_markText N (s + 2) K = K (mt (s + 2)) := fun K => markText_eq N (by omega) (by omega) hN K
      refine ⟨?_, by omega⟩
      simp only [l_laws_heldFirmTableS_w_0, s_laws_heldFirmTableS_w_0, rowsFirmTable_length, dec_lt hi, dec_nn, Int.toNat_natCast, elemK_some hx, rowFirmTable, bne_self_eq_false, beq_self_eq_true, decide_true, Bool.not_true, cond_false, wrap_next hi (by omega), Bool.and_true, cond_true, e1, e2, e3, m0, m2])
    (fun f s hs => by
      simp only [l_laws_heldFirmTableS_w_0, s_laws_heldFirmTableS_w_0, rowsFirmTable_length, dec_nlt, cond_false]) (s := k) (by simp) (f := N) (by omega)
  refine h1.trans ?_
  rw [h2]

def devWord (x : Device) : Int := IntKind.wrap .i64 (IntKind.wrap .i64 (IntKind.wrap .i64 (x.fKind * 16777216) + IntKind.wrap .i64 (x.fLine * 65536)) + x.fPort)

def devWords (l : List Device) : ByteArray := l.foldl (fun s x => s ++ putWord (devWord x)) ⟨[].toArray⟩

def tables (fr cp : Int) (l : List Device) : List FirmTable := cond (boardFault fr cp l != 0) []
  [⟨⟨[(77 : UInt8), (69 : UInt8), (77 : UInt8), (79 : UInt8)].toArray⟩, 1, putWord fr⟩, ⟨⟨[(67 : UInt8), (80 : UInt8), (85 : UInt8), (83 : UInt8)].toArray⟩, 1, putWord cp⟩, ⟨⟨[(68 : UInt8), (69 : UInt8), (86 : UInt8), (83 : UInt8)].toArray⟩, 1, devWords l⟩]

theorem tdiv_nn {n m : Int} (h : 0 ≤ n) : n.tdiv m = n / m := Int.tdiv_eq_ediv_of_nonneg h

theorem tmod_nn {n m : Int} (h : 0 ≤ n) : n.tmod m = n % m := Int.tmod_eq_emod_of_nonneg h

structure TRes where
  name : ByteArray
  rev : Int
  body : ByteArray
  code : Int

def tres0 (c : Int) : TRes := ⟨⟨[].toArray⟩, 0, ⟨[].toArray⟩, c⟩

def tableIn (s : ByteArray) (i : Nat) : TRes :=
  cond (!nameOk (s.extract i (i + 4)) || (decide (wordAt s (i + 4) / 65536 < 8) || (decide (wordAt s (i + 4) / 65536 > 208) || (Int.tmod (wordAt s (i + 4) / 65536) 4 != 0)))) (tres0 3)
    (cond (!fitsAt s.size i (wordAt s (i + 4) / 65536)) (tres0 5)
      (cond (byteSum (s.extract i (i + (wordAt s (i + 4) / 65536).toNat)) % 256 != 0) (tres0 10)
        ⟨s.extract i (i + 4), wordAt s (i + 4) / 256 % 256, s.extract (i + 8) (i + (wordAt s (i + 4) / 65536).toNat), 0⟩))

def tableAt (s : ByteArray) (n : Int) : TRes := cond ((Int.tmod n 4 != 0) || !fitsAt s.size n 8) (tres0 5) (tableIn s n.toNat)

def TRes.out (t : TRes) (k : ByteArray → Int → ByteArray → Int → Option R) : Option R := k t.name t.rev t.body t.code

theorem impl_ytableAt_eq {s : ByteArray} {n : Int} (hs : s.size ≤ 65536) (hN : 2 ^ 40 < N) (k : ByteArray → Int → ByteArray → Int → Option R) : g_impl_ytableAt N s n k = (tableAt s n).out k := by
  unfold g_impl_ytableAt tableAt
  cases h1 : (Int.tmod n 4 != 0) with
  | true => rfl
  | false =>
    rw [cond_false, Bool.false_or, impl_yfits_eq]
    cases h2 : fitsAt (s.size : Int) n 8 with
    | false => rfl
    | true =>
      obtain ⟨f1, _, f2⟩ := fits_nat (by omega) h2
      obtain ⟨i, rfl⟩ := Int.eq_ofNat_of_zero_le f1
      obtain ⟨w0, w1⟩ := wordAt_bound s (i + 4)
      have e4 : IntKind.wrap .i64 ((i : Int) + 4) = ((i + 4 : Nat) : Int) := by rw [w64 (by omega) (by omega)]; omega
      have e8 : IntKind.wrap .i64 ((i : Int) + 8) = ((i + 8 : Nat) : Int) := by rw [w64 (by omega) (by omega)]; omega
      rw [Int.toNat_natCast]
      have hx : (s.extract i (i + 4)).size ≤ 2 ^ 40 := by rw [ByteArray.size_extract]; omega
      rw [Bool.not_true, cond_false, e4, rng3 (show i ≤ i + 4 by omega) (show i + 4 ≤ s.size by omega), cond_true, impl_ywordAt_eq N (show i + 4 + 4 ≤ s.size by omega) (show s.size ≤ 2 ^ 60 by omega), impl_ywordAt_eq N (show i + 4 + 4 ≤ s.size by omega) (show s.size ≤ 2 ^ 60 by omega), Int.toNat_natCast, impl_ytableName_eq N hx hN, fdiv_lit _ (show (0 : Int) ≤ 65536 by omega), fdiv_lit _ (show (0 : Int) ≤ 256 by omega)]
      unfold tableIn
      cases h3 : nameOk (s.extract i (i + 4)) with
      | false => rfl
      | true =>
        rw [Bool.not_true, cond_false, Bool.false_or]
        cases h4 : decide (wordAt s (i + 4) / 65536 < 8) with
        | true => rfl
        | false =>
          rw [cond_false, Bool.false_or]
          cases h5 : decide (wordAt s (i + 4) / 65536 > 208) with
          | true => rfl
          | false =>
            rw [cond_false, Bool.false_or]
            cases h6 : (Int.tmod (wordAt s (i + 4) / 65536) 4 != 0) with
            | true => rfl
            | false =>
              rw [cond_false, cond_false, impl_yfits_eq]
              cases h7 : fitsAt (s.size : Int) (i : Int) (wordAt s (i + 4) / 65536) with
              | false => rfl
              | true =>
                obtain ⟨_, g1, g2⟩ := fits_nat (by omega) h7
                have h4 := of_decide_eq_false h4
                obtain ⟨m, hm⟩ := Int.eq_ofNat_of_zero_le g1
                have em : IntKind.wrap .i64 ((i : Int) + (m : Int)) = ((i + m : Nat) : Int) := by rw [w64 (by omega) (by omega)]; omega
                have hy : (s.extract i (i + m)).size ≤ 2 ^ 40 := by rw [ByteArray.size_extract]; omega
                rw [hm] at g2 h4 ⊢
                rw [Bool.not_true, cond_false, em, e8, rng3 (show i ≤ i + m by omega) (show i + m ≤ s.size by omega), rng3 (show i + 8 ≤ i + m by omega) (show i + m ≤ s.size by omega), cond_true, cond_true, Int.toNat_natCast, Int.toNat_natCast, impl_ybyteSum_eq N hy hN, and255, cond_false, Int.toNat_natCast]
                cases (byteSum (s.extract i (i + m)) % 256 != 0) <;> rfl

theorem spec_l21Read_eq {s : ByteArray} {n : Int} (hs : s.size ≤ 65536) (hN : 2 ^ 40 < N) (k : ByteArray → Int → ByteArray → Int → Option R) : g_spec_l21Read N s n k = (tableAt s n).out k := by
  unfold g_spec_l21Read tableAt
  simp -implicitDefEqProofs only [spec_l10In_eq, cond_somes, oK_some_eq, Bool.cond_true_left]
  cases h1 : ((Int.tmod n 4 != 0) || !fitsAt (s.size : Int) n 8) with
  | true => rfl
  | false =>
    have h2 : fitsAt (s.size : Int) n 8 = true := by
      cases h : fitsAt (s.size : Int) n 8 with
      | true => rfl
      | false => rw [h, Bool.not_false, Bool.or_true] at h1; cases h1
    obtain ⟨f1, _, f2⟩ := fits_nat (by omega) h2
    obtain ⟨i, rfl⟩ := Int.eq_ofNat_of_zero_le f1
    obtain ⟨w0, w1⟩ := wordAt_bound s (i + 4)
    have e4 : IntKind.wrap .i64 ((i : Int) + 4) = ((i + 4 : Nat) : Int) := by rw [w64 (by omega) (by omega)]; omega
    have e8 : IntKind.wrap .i64 ((i : Int) + 8) = ((i + 8 : Nat) : Int) := by rw [w64 (by omega) (by omega)]; omega
    rw [Int.toNat_natCast]
    have t1 : IntKind.wrap .i64 (Int.tdiv (wordAt s (i + 4)) 65536) = wordAt s (i + 4) / 65536 := by rw [tdiv_nn w0, w64 (by omega) (by omega)]
    have t2 : IntKind.wrap .i64 (Int.tdiv (wordAt s (i + 4)) 256) = wordAt s (i + 4) / 256 := by rw [tdiv_nn w0, w64 (by omega) (by omega)]
    simp -implicitDefEqProofs only [cond_false, e4, e8, rng3 (show i ≤ i + 4 by omega) (show i + 4 ≤ s.size by omega), cond_true, spec_l01Word_eq N (show i + 4 + 4 ≤ s.size by omega) (show s.size ≤ 2 ^ 60 by omega), Int.toNat_natCast, spec_l21Name_eq N hN, t1, t2, cond_somes, oK_some_eq, Bool.cond_true_left]
    unfold tableIn
    cases h3 : (!nameOk (s.extract i (i + 4)) || (decide (wordAt s (i + 4) / 65536 < 8) || (decide (wordAt s (i + 4) / 65536 > 208) || (Int.tmod (wordAt s (i + 4) / 65536) 4 != 0)))) with
    | true => rfl
    | false =>
      rw [cond_false, cond_false]
      cases h7 : fitsAt (s.size : Int) (i : Int) (wordAt s (i + 4) / 65536) with
      | false => rfl
      | true =>
        obtain ⟨_, g1, g2⟩ := fits_nat (by omega) h7
        have h4 : 8 ≤ wordAt s (i + 4) / 65536 := by
          simp -implicitDefEqProofs only [Bool.or_eq_false_iff, decide_eq_false_iff_not] at h3
          omega
        obtain ⟨m, hm⟩ := Int.eq_ofNat_of_zero_le g1
        have em : IntKind.wrap .i64 ((i : Int) + (m : Int)) = ((i + m : Nat) : Int) := by rw [w64 (by omega) (by omega)]; omega
        have hy : (s.extract i (i + m)).size ≤ 2 ^ 40 := by rw [ByteArray.size_extract]; omega
        obtain ⟨q1, q2, q3⟩ := spec_l21Bytes_eq N (R := R) (s := s.extract i (i + m)) hy hN (fun n2 => k ⟨[].toArray⟩ 0 ⟨[].toArray⟩ 0)
        have q := fun k => (spec_l21Bytes_eq N (R := R) (s := s.extract i (i + m)) hy hN k).1
        rw [hm] at g2 h4 ⊢
        simp -implicitDefEqProofs only [Bool.not_true, cond_false, em, rng3 (show i ≤ i + m by omega) (show i + m ≤ s.size by omega), rng3 (show i + 8 ≤ i + m by omega) (show i + m ≤ s.size by omega), cond_true, Int.toNat_natCast, q, tmod_nn q2, tmod_nn (show 0 ≤ wordAt s (i + 4) / 256 by omega)]
        cases (byteSum (s.extract i (i + m)) % 256 != 0) <;> rfl

def tbl (t : TRes) : FirmTable := ⟨t.name, t.rev, t.body⟩

def readK (s : ByteArray) : Nat → Nat → (Int → Option R) → (List FirmTable → Option R) → Option R
  | _, 0, _, kN => kN []
  | a, d + 1, kR, kN => cond ((tableAt s (wordAt s a)).code != 0) (kR (tableAt s (wordAt s a)).code) (readK s (a + 4) d kR (fun L => kN (tbl (tableAt s (wordAt s a)) :: L)))

theorem readK_succ (s : ByteArray) (a d : Nat) (kR : Int → Option R) (kN : List FirmTable → Option R) : readK s a (d + 1) kR kN = cond ((tableAt s (wordAt s a)).code != 0) (kR (tableAt s (wordAt s a)).code) (readK s (a + 4) d kR (fun L => kN (tbl (tableAt s (wordAt s a)) :: L))) := rfl

theorem cond_congr {α : Type} {c : Bool} {a a' b b' : α} (h1 : a = a') (h2 : b = b') : cond c a b = cond c a' b' := by rw [h1, h2]

/-- The tables told from a place on: a fault, or all. -/
theorem readK_eq (s : ByteArray) : ∀ (d a : Nat), (∃ c : Int, c ≠ 0 ∧ ∀ (kR : Int → Option R) kN, readK s a d kR kN = kR c) ∨ (∃ L : List FirmTable, L.length = d ∧ ∀ (kR : Int → Option R) kN, readK s a d kR kN = kN L)
  | 0, a => .inr ⟨[], rfl, fun _ _ => rfl⟩
  | d + 1, a => by
    obtain ⟨T, hT⟩ : ∃ T, tableAt s (wordAt s a) = T := ⟨_, rfl⟩
    cases hc : (T.code != 0) with
    | true => exact .inl ⟨T.code, by simpa using hc, fun kR kN => by rw [readK_succ, hT, hc, cond_true]⟩
    | false =>
      rcases readK_eq s d (a + 4) with ⟨c, h0, h⟩ | ⟨L, h0, h⟩
      · exact .inl ⟨c, h0, fun kR kN => by rw [readK_succ, hT, hc, cond_false, h]⟩
      · exact .inr ⟨tbl T :: L, by rw [List.length_cons, h0], fun kR kN => by rw [readK_succ, hT, hc, cond_false, h]⟩

theorem impl_ReadTables_go {s : ByteArray} {n : Nat} {m : Nat} (hs : s.size ≤ 65536) (hn : n + 12 + 4 * m ≤ s.size) (hm : m ≤ 10) (hN : 2 ^ 40 < N) (n6 n7 : Int) (b5 : Bool) (l0 : List FirmTable) : ∀ (d f i : Nat) (b : Bool) (l : List FirmTable), i + d = m → d < f → l.length ≤ i →
    ∃ b', ∀ (kR : Int → Bool → List FirmTable → Option R) (kR' : Int → Option R) (kN : Bool → List FirmTable → Option R), (∀ c b l, kR c b l = kR' c) →
      l_impl_ReadTables_0 N s (n : Int) (m : Int) n6 b5 l0 n7 kR kN f (i : Int) b l = readK s (n + 8 + 4 * i) d kR' (fun L => kN b' (l ++ L)) := by
  intro d
  induction d with
  | zero =>
    intro f i b l hi hf hl
    obtain ⟨f, rfl⟩ : ∃ j, f = j + 1 := ⟨f - 1, by omega⟩
    refine ⟨b, fun kR kR' kN hR => ?_⟩
    rw [l_impl_ReadTables_0, s_impl_ReadTables_0, decide_eq_false (show ¬ (i : Int) < (m : Int) by omega), cond_false, readK, List.append_nil]
  | succ d ih =>
    intro f i b l hi hf hl
    obtain ⟨f, rfl⟩ : ∃ j, f = j + 1 := ⟨f - 1, by omega⟩
    have e1 : IntKind.wrap .i64 (IntKind.wrap .i64 ((n : Int) + 8) + IntKind.wrap .i64 (4 * (i : Int))) = ((n + 8 + 4 * i : Nat) : Int) := by
      rw [w64 (n := (n : Int) + 8) (by omega) (by omega), w64 (n := 4 * (i : Int)) (by omega) (by omega), w64 (by omega) (by omega)]; omega
    have e2 : IntKind.wrap .i64 ((i : Int) + 1) = ((i + 1 : Nat) : Int) := by rw [w64 (by omega) (by omega)]; omega
    have hw := fun k => impl_ywordAt_eq N (R := R) (show n + 8 + 4 * i + 4 ≤ s.size by omega) (show s.size ≤ 2 ^ 60 by omega) k
    obtain ⟨T, hT⟩ : ∃ T, tableAt s (wordAt s (n + 8 + 4 * i)) = T := ⟨_, rfl⟩
    have ht := fun k => impl_ytableAt_eq N (R := R) (s := s) (n := wordAt s (n + 8 + 4 * i)) hs hN k
    rw [hT] at ht
    obtain ⟨b', h⟩ := ih f (i + 1) (cond (Nat.beq 1 0) b false) (l ++ [tbl T]) (by omega) (by omega) (by rw [List.length_append, List.length_singleton]; omega)
    refine ⟨b', fun kR kR' kN hR => ?_⟩
    have h := h kR kR' kN hR
    rw [l_impl_ReadTables_0, s_impl_ReadTables_0, decide_eq_true (show (i : Int) < (m : Int) by omega), cond_true, e1, hw, ht, readK_succ, hT, TRes.out, List.length_singleton, room (show (l.length + 1) * 40 ≤ 2 ^ 47 by omega) (by omega), cond_true, e2]
    refine cond_congr (hR _ _ _) ?_
    rw [show n + 8 + 4 * (i + 1) = n + 8 + 4 * i + 4 by omega] at h
    refine h.trans ?_
    congr 1
    funext L
    rw [List.append_assoc]
    rfl

theorem spec_ReadTables_go {s : ByteArray} {n : Nat} {m : Nat} (hs : s.size ≤ 65536) (hn : n + 12 + 4 * m ≤ s.size) (hm : m ≤ 10) (hN : 2 ^ 40 < N) (n6 n7 : Int) (b5 : Bool) (l0 : List FirmTable) : ∀ (d f i : Nat) (b : Bool) (l : List FirmTable), i + d = m → d < f → l.length ≤ i →
    ∃ b', ∀ (kR : Int → Bool → List FirmTable → Option R) (kR' : Int → Option R) (kN : Bool → List FirmTable → Option R), (∀ c b l, kR c b l = kR' c) →
      l_spec_ReadTables_0 N s (n : Int) (m : Int) n6 b5 l0 n7 kR kN f (i : Int) b l = readK s (n + 8 + 4 * i) d kR' (fun L => kN b' (l ++ L)) := by
  intro d
  induction d with
  | zero =>
    intro f i b l hi hf hl
    obtain ⟨f, rfl⟩ : ∃ j, f = j + 1 := ⟨f - 1, by omega⟩
    refine ⟨b, fun kR kR' kN hR => ?_⟩
    rw [l_spec_ReadTables_0, s_spec_ReadTables_0, decide_eq_false (show ¬ (i : Int) < (m : Int) by omega), cond_false, readK, List.append_nil]
  | succ d ih =>
    intro f i b l hi hf hl
    obtain ⟨f, rfl⟩ : ∃ j, f = j + 1 := ⟨f - 1, by omega⟩
    have e1 : IntKind.wrap .i64 (IntKind.wrap .i64 ((n : Int) + 8) + IntKind.wrap .i64 (4 * (i : Int))) = ((n + 8 + 4 * i : Nat) : Int) := by
      rw [w64 (n := (n : Int) + 8) (by omega) (by omega), w64 (n := 4 * (i : Int)) (by omega) (by omega), w64 (by omega) (by omega)]; omega
    have e2 : IntKind.wrap .i64 ((i : Int) + 1) = ((i + 1 : Nat) : Int) := by rw [w64 (by omega) (by omega)]; omega
    have hw := fun k => spec_l01Word_eq N (R := R) (show n + 8 + 4 * i + 4 ≤ s.size by omega) (show s.size ≤ 2 ^ 60 by omega) k
    obtain ⟨T, hT⟩ : ∃ T, tableAt s (wordAt s (n + 8 + 4 * i)) = T := ⟨_, rfl⟩
    have ht := fun k => spec_l21Read_eq N (R := R) (s := s) (n := wordAt s (n + 8 + 4 * i)) hs hN k
    rw [hT] at ht
    obtain ⟨b', h⟩ := ih f (i + 1) (cond (Nat.beq 1 0) b false) (l ++ [tbl T]) (by omega) (by omega) (by rw [List.length_append, List.length_singleton]; omega)
    refine ⟨b', fun kR kR' kN hR => ?_⟩
    have h := h kR kR' kN hR
    rw [l_spec_ReadTables_0, s_spec_ReadTables_0, decide_eq_true (show (i : Int) < (m : Int) by omega), cond_true, e1, hw, ht, readK_succ, hT, TRes.out, List.length_singleton, room (show (l.length + 1) * 40 ≤ 2 ^ 47 by omega) (by omega), cond_true, e2]
    refine cond_congr (hR _ _ _) ?_
    rw [show n + 8 + 4 * (i + 1) = n + 8 + 4 * i + 4 by omega] at h
    refine h.trans ?_
    congr 1
    funext L
    rw [List.append_assoc]
    rfl

theorem fits_dec {m i : Nat} {t : Int} (hm : m ≤ 2 ^ 60) (hi : i ≤ 2 ^ 60) (h0 : 0 ≤ t) : fitsAt (m : Int) (i : Int) t = decide ((i : Int) + t ≤ (m : Int)) := by
  unfold fitsAt
  rw [w64 (by omega) (by omega), decide_eq_true (show (i : Int) ≥ 0 by omega), decide_eq_true (show t ≥ 0 by omega), Bool.true_and, Bool.true_and, ← Bool.decide_and]
  exact decide_eq_decide.2 (by omega)

def firm : ByteArray := ⟨[(70 : UInt8), (73 : UInt8), (82 : UInt8), (77 : UInt8)].toArray⟩

def rtBad1 (s : ByteArray) (n : Int) : Bool := !memOk s || ((Int.tmod n 4 != 0) || !(decide (n ≥ 0) && decide (n ≤ (s.size : Int) - 1)))

def rtBad3 (s : ByteArray) (i : Nat) : Bool := !decide ((i : Int) + 12 ≤ (s.size : Int)) || (!decide (s.extract i (i + 4) = firm) || (decide (wordAt s (i + 4) > 10) || !decide ((i : Int) + (12 + 4 * wordAt s (i + 4)) ≤ (s.size : Int))))

theorem rt_facts {s : ByteArray} {n : Int} (hs : ¬ (s.size : Int) > 65536) (h : rtBad1 s n = false) : memOk s = true ∧ ∃ i : Nat, n = (i : Int) ∧ i + 4 ≤ s.size ∧ i % 4 = 0 := by
  unfold rtBad1 at h
  simp only [Bool.or_eq_false_iff, Bool.not_eq_false'] at h
  obtain ⟨h1, h2, h3⟩ := h
  refine ⟨h1, ?_⟩
  unfold memOk at h1
  simp only [Bool.and_eq_true, decide_eq_true_eq] at h1 h3
  obtain ⟨i, rfl⟩ := Int.eq_ofNat_of_zero_le h3.1
  have h4 : Int.tmod (s.size : Int) 256 = 0 := by simpa using h1.2.2
  have h5 : Int.tmod (i : Int) 4 = 0 := by simpa using h2
  rw [tmod_nn (by omega)] at h4 h5
  exact ⟨i, rfl, by omega, by omega⟩

theorem rt_main {s : ByteArray} {i : Nat} (h : rtBad3 s i = false) : i + 12 ≤ s.size ∧ s.extract i (i + 4) = firm ∧ ∃ m : Nat, wordAt s (i + 4) = (m : Int) ∧ m ≤ 10 ∧ i + 12 + 4 * m ≤ s.size := by
  unfold rtBad3 at h
  simp only [Bool.or_eq_false_iff, Bool.not_eq_false', decide_eq_true_eq, decide_eq_false_iff_not] at h
  obtain ⟨h1, h2, h3, h4⟩ := h
  obtain ⟨w0, w1⟩ := wordAt_bound s (i + 4)
  obtain ⟨m, hm⟩ := Int.eq_ofNat_of_zero_le w0
  rw [hm] at h3 h4
  exact ⟨by omega, h2, m, hm, by omega, by omega⟩

theorem test3 (a b c : Bool) (K : Bool → Option R) : (oK (cond (!a) (some true) (cond b (some true) (some (!c)))) K) = K (!a || (b || !c)) := by cases a <;> cases b <;> rfl

theorem impl_ReadTables_head {s : ByteArray} {n : Int} (hN : 2 ^ 40 < N) (h1 : ¬ (s.size : Int) > 65536) (hb : rtBad1 s n = false) {i : Nat} (hi : n = (i : Int)) (hi4 : i + 4 ≤ s.size) (k : Int → Bool → List FirmTable → Option R) :
    g_impl_ReadTables N s n k = cond (rtBad3 s i) (k 3 true []) (g_impl_ywordSum N (s.extract i (i + 12 + 4 * (wordAt s (i + 4)).toNat)) fun n2 => cond (n2 != 0) (k 10 true []) (c_impl_ReadTables_0 N s i (wordAt s (i + 4)) 0 true [] 0 0 true [] (fun n11 _ _ => k n11 true []) (fun b8 l3 => k 0 b8 l3))) := by
  subst hi
  have hb' := hb
  unfold rtBad1 at hb'
  have e4 : IntKind.wrap .i64 ((i : Int) + 4) = ((i + 4 : Nat) : Int) := by rw [w64 (by omega) (by omega)]; omega
  have f8 := fits_dec (m := s.size) (i := i) (t := 8) (by omega) (by omega) (by omega)
  rw [g_impl_ReadTables, ybig_eq N hN, decide_eq_false h1, cond_false, impl_ymemOk_eq, impl_yin_eq, w64 (n := (s.size : Int) - 1) (by omega) (by omega)]
  change (oK (cond (!memOk s) (some true) (cond (Int.tmod (i : Int) 4 != 0) (some true) (some (!(decide ((i : Int) ≥ 0) && decide ((i : Int) ≤ (s.size : Int) - 1)))))) _) = _
  rw [test3, hb', cond_false, e4, rng3 (show i ≤ i + 4 by omega) hi4, cond_true, Int.toNat_natCast, Int.toNat_natCast, impl_yfits_eq, f8]
  change (oK (cond (!decide (s.extract i (i + 4) = firm)) _ _) _) = _
  by_cases hF : s.extract i (i + 4) = firm
  case neg =>
    have : rtBad3 s i = true := by unfold rtBad3; rw [decide_eq_false hF, Bool.not_false, Bool.true_or, Bool.or_true]
    rw [this, decide_eq_false hF, cond_true]
    rfl
  have hF' := decide_eq_true hF
  rw [hF', Bool.not_true, cond_false, oK_some_eq]
  by_cases h8 : (i : Int) + 8 ≤ (s.size : Int)
  case neg =>
    have : rtBad3 s i = true := by unfold rtBad3; rw [decide_eq_false (show ¬ (i : Int) + 12 ≤ (s.size : Int) by omega), Bool.not_false, Bool.true_or]
    rw [this, cond_true, decide_eq_false h8, Bool.not_false, cond_true]
  obtain ⟨w0, w1⟩ := wordAt_bound s (i + 4)
  rw [decide_eq_true h8, Bool.not_true, cond_false, impl_ywordAt_eq N (show i + 4 + 4 ≤ s.size by omega) (show s.size ≤ 2 ^ 60 by omega)]
  by_cases h10 : wordAt s (i + 4) > 10
  · have : rtBad3 s i = true := by unfold rtBad3; rw [decide_eq_true h10, Bool.true_or, Bool.or_true, Bool.or_true]
    rw [this, cond_true, decide_eq_true h10, cond_true, oK_some_eq, cond_true]
  have em : IntKind.wrap .i64 (12 + IntKind.wrap .i64 (4 * wordAt s (i + 4))) = 12 + 4 * wordAt s (i + 4) := by rw [w64 (n := 4 * wordAt s (i + 4)) (by omega) (by omega), w64 (by omega) (by omega)]
  have fm := fits_dec (m := s.size) (i := i) (t := 12 + 4 * wordAt s (i + 4)) (by omega) (by omega) (by omega)
  rw [decide_eq_false h10, cond_false, em, impl_yfits_eq, fm, oK_some_eq]
  by_cases hfit : (i : Int) + (12 + 4 * wordAt s (i + 4)) ≤ (s.size : Int)
  case neg =>
    have : rtBad3 s i = true := by unfold rtBad3; rw [decide_eq_false hfit, Bool.not_false, Bool.or_true, Bool.or_true, Bool.or_true]
    rw [this, cond_true, decide_eq_false hfit, Bool.not_false, cond_true]
  have hB : rtBad3 s i = false := by
    unfold rtBad3
    rw [hF', decide_eq_false h10, decide_eq_true hfit, decide_eq_true (show (i : Int) + 12 ≤ (s.size : Int) by omega)]; rfl
  have e5 : IntKind.wrap .i64 (IntKind.wrap .i64 ((i : Int) + 12) + IntKind.wrap .i64 (4 * wordAt s (i + 4))) = ((i + 12 + 4 * (wordAt s (i + 4)).toNat : Nat) : Int) := by
    rw [w64 (n := (i : Int) + 12) (by omega) (by omega), w64 (n := 4 * wordAt s (i + 4)) (by omega) (by omega), w64 (by omega) (by omega)]; omega
  rw [hB, cond_false, decide_eq_true hfit, Bool.not_true, cond_false, e5, rng3 (show i ≤ i + 12 + 4 * (wordAt s (i + 4)).toNat by omega) (by omega), cond_true, Int.toNat_natCast]

theorem spec_ReadTables_head {s : ByteArray} {n : Int} (hN : 2 ^ 40 < N) (h1 : ¬ (s.size : Int) > 65536) (hb : rtBad1 s n = false) {i : Nat} (hi : n = (i : Int)) (hi4 : i + 4 ≤ s.size) (k : Int → Bool → List FirmTable → Option R) :
    g_spec_ReadTables N s n k = cond (rtBad3 s i) (k 3 true []) (g_spec_l21Words N (s.extract i (i + 12 + 4 * (wordAt s (i + 4)).toNat)) fun n3 => g_spec_Word N n3 fun n2 => cond (n2 != 0) (k 10 true []) (c_spec_ReadTables_0 N s i (wordAt s (i + 4)) 0 true [] 0 0 true [] (fun n11 _ _ => k n11 true []) (fun b8 l3 => k 0 b8 l3))) := by
  subst hi
  have hb' := hb
  unfold rtBad1 at hb'
  have a3 : decide ((i : Int) < 0) = !decide ((i : Int) ≥ 0) := by rw [← decide_not]; exact decide_eq_decide.2 (by omega)
  have a4 : decide ((i : Int) ≥ (s.size : Int)) = !decide ((i : Int) ≤ (s.size : Int) - 1) := by rw [← decide_not]; exact decide_eq_decide.2 (by omega)
  have e4 : IntKind.wrap .i64 ((i : Int) + 4) = ((i + 4 : Nat) : Int) := by rw [w64 (by omega) (by omega)]; omega
  have f12 := fits_dec (m := s.size) (i := i) (t := 12) (by omega) (by omega) (by omega)
  have t4 : ∀ (a b c d : Bool) (K : Bool → Option R), (!a || (c || !(b && d))) = false → (oK (cond ((cond a (0 : Int) 1) != 0) (some true) (cond (!b) (some true) (cond c (some true) (some (!d))))) K) = K false := fun a b c d K => by cases a <;> cases b <;> cases c <;> cases d <;> intro h <;> first | rfl | cases h
  rw [g_spec_ReadTables, decide_eq_false h1, cond_false, spec_MemFault_eq, a3, a4, t4 _ _ _ _ _ hb', cond_false, spec_l10In_eq, f12, e4, rng3 (show i ≤ i + 4 by omega) hi4, cond_true, Int.toNat_natCast, Int.toNat_natCast]
  change (oK (cond (!decide ((i : Int) + 12 ≤ (s.size : Int))) (some true) (some (!decide (s.extract i (i + 4) = firm)))) _) = _
  by_cases h12 : (i : Int) + 12 ≤ (s.size : Int)
  case neg =>
    have : rtBad3 s i = true := by unfold rtBad3; rw [decide_eq_false h12, Bool.not_false, Bool.true_or]
    rw [this, cond_true, decide_eq_false h12]
    rfl
  rw [decide_eq_true h12, Bool.not_true, cond_false, oK_some_eq]
  by_cases hF : s.extract i (i + 4) = firm
  case neg =>
    have : rtBad3 s i = true := by unfold rtBad3; rw [decide_eq_false hF, Bool.not_false, Bool.true_or, Bool.or_true]
    rw [this, decide_eq_false hF, cond_true]
    rfl
  have hF' := decide_eq_true hF
  obtain ⟨w0, w1⟩ := wordAt_bound s (i + 4)
  rw [hF', Bool.not_true, cond_false, spec_l01Word_eq N (show i + 4 + 4 ≤ s.size by omega) (show s.size ≤ 2 ^ 60 by omega)]
  by_cases h10 : wordAt s (i + 4) > 10
  · have : rtBad3 s i = true := by unfold rtBad3; rw [decide_eq_true h10, Bool.true_or, Bool.or_true, Bool.or_true]
    rw [this, cond_true, decide_eq_true h10, cond_true, oK_some_eq, cond_true]
  have em : IntKind.wrap .i64 (12 + IntKind.wrap .i64 (4 * wordAt s (i + 4))) = 12 + 4 * wordAt s (i + 4) := by rw [w64 (n := 4 * wordAt s (i + 4)) (by omega) (by omega), w64 (by omega) (by omega)]
  have fm := fits_dec (m := s.size) (i := i) (t := 12 + 4 * wordAt s (i + 4)) (by omega) (by omega) (by omega)
  rw [decide_eq_false h10, cond_false, em, spec_l10In_eq, fm, oK_some_eq]
  by_cases hfit : (i : Int) + (12 + 4 * wordAt s (i + 4)) ≤ (s.size : Int)
  case neg =>
    have : rtBad3 s i = true := by unfold rtBad3; rw [decide_eq_false hfit, Bool.not_false, Bool.or_true, Bool.or_true, Bool.or_true]
    rw [this, cond_true, decide_eq_false hfit, Bool.not_false, cond_true]
  have hB : rtBad3 s i = false := by
    unfold rtBad3
    rw [hF', decide_eq_false h10, decide_eq_true hfit, decide_eq_true (show (i : Int) + 12 ≤ (s.size : Int) by omega)]; rfl
  have e5 : IntKind.wrap .i64 (IntKind.wrap .i64 ((i : Int) + 12) + IntKind.wrap .i64 (4 * wordAt s (i + 4))) = ((i + 12 + 4 * (wordAt s (i + 4)).toNat : Nat) : Int) := by
    rw [w64 (n := (i : Int) + 12) (by omega) (by omega), w64 (n := 4 * wordAt s (i + 4)) (by omega) (by omega), w64 (by omega) (by omega)]; omega
  rw [hB, cond_false, decide_eq_true hfit, Bool.not_true, cond_false, e5, rng3 (show i ≤ i + 12 + 4 * (wordAt s (i + 4)).toNat by omega) (by omega), cond_true, Int.toNat_natCast]

/-- Both read the same: a fault, or the tables. -/
theorem ReadTables_both {s : ByteArray} {n : Int} (hN : 2 ^ 40 < N) :
    (∃ c : Int, (∀ k : Int → Bool → List FirmTable → Option R, g_impl_ReadTables N s n k = k c true []) ∧ ∀ k : Int → Bool → List FirmTable → Option R, g_spec_ReadTables N s n k = k c true []) ∨
    (∃ (b b' : Bool) (L : List FirmTable), L.length ≤ 10 ∧ (∀ k : Int → Bool → List FirmTable → Option R, g_impl_ReadTables N s n k = k 0 b L) ∧ ∀ k : Int → Bool → List FirmTable → Option R, g_spec_ReadTables N s n k = k 0 b' L) := by
  by_cases h1 : (s.size : Int) > 65536
  · refine .inl ⟨2, fun k => ?_, fun k => ?_⟩
    · rw [g_impl_ReadTables, ybig_eq N hN, decide_eq_true h1, cond_true]
    · rw [g_spec_ReadTables, decide_eq_true h1, cond_true]
  cases hb : rtBad1 s n with
  | true =>
    refine .inl ⟨1, fun k => ?_, fun k => ?_⟩
    · have hb' := hb
      unfold rtBad1 at hb'
      rw [g_impl_ReadTables, ybig_eq N hN, decide_eq_false h1, cond_false, impl_ymemOk_eq, impl_yin_eq, w64 (n := (s.size : Int) - 1) (by omega) (by omega)]
      change (oK (cond (!memOk s) (some true) (cond (Int.tmod n 4 != 0) (some true) (some (!(decide (n ≥ 0) && decide (n ≤ (s.size : Int) - 1)))))) _) = _
      rw [test3, hb', cond_true]
    · have a3 : decide (n < 0) = !decide (n ≥ 0) := by rw [← decide_not]; exact decide_eq_decide.2 (by omega)
      have a4 : decide (n ≥ (s.size : Int)) = !decide (n ≤ (s.size : Int) - 1) := by rw [← decide_not]; exact decide_eq_decide.2 (by omega)
      have hb' := hb
      unfold rtBad1 at hb'
      have t4 : ∀ (a b c d : Bool) (K : Bool → Option R), (!a || (c || !(b && d))) = true → (oK (cond ((cond a (0 : Int) 1) != 0) (some true) (cond (!b) (some true) (cond c (some true) (some (!d))))) K) = K true := fun a b c d K => by cases a <;> cases b <;> cases c <;> cases d <;> intro h <;> first | rfl | cases h
      rw [g_spec_ReadTables, decide_eq_false h1, cond_false, spec_MemFault_eq, a3, a4, t4 _ _ _ _ _ hb', cond_true]
  | false =>
    obtain ⟨hm, i, hi, hi4, him⟩ := rt_facts h1 hb
    have hI := fun k => impl_ReadTables_head N (R := R) hN h1 hb hi hi4 k
    have hS := fun k => spec_ReadTables_head N (R := R) hN h1 hb hi hi4 k
    cases h3 : rtBad3 s i with
    | true => exact .inl ⟨3, fun k => by rw [hI, h3, cond_true], fun k => by rw [hS, h3, cond_true]⟩
    | false =>
      obtain ⟨g1, g2, m, g3, g4, g5⟩ := rt_main h3
      have hx : (s.extract i (i + 12 + 4 * m)).size = 12 + 4 * m := by rw [ByteArray.size_extract]; omega
      have wI := fun k => impl_ywordSum_eq N (R := R) (s := s.extract i (i + 12 + 4 * m)) (by omega) (by omega) hN k
      have wS := fun k => (spec_l21Words_eq N (R := R) (s := s.extract i (i + 12 + 4 * m)) (by omega) hN k).1
      cases h4 : (word (wordSum (s.extract i (i + 12 + 4 * m))) != 0) with
      | true => exact .inl ⟨10, fun k => by rw [hI, h3, g3, cond_false, Int.toNat_natCast, wI, h4, cond_true], fun k => by rw [hS, h3, g3, cond_false, Int.toNat_natCast, wS, spec_Word_eq, h4, cond_true]⟩
      | false =>
        obtain ⟨b, gI⟩ := impl_ReadTables_go N (R := R) (s := s) (n := i) (m := m) (by omega) (by omega) (by omega) hN 0 0 true [] m N 0 true [] (by omega) (by omega) (by simp)
        obtain ⟨b', gS⟩ := spec_ReadTables_go N (R := R) (s := s) (n := i) (m := m) (by omega) (by omega) (by omega) hN 0 0 true [] m N 0 true [] (by omega) (by omega) (by simp)
        rcases readK_eq (R := R) s m (i + 8 + 4 * 0) with ⟨c, _, hc⟩ | ⟨L, hL, hc⟩
        · refine .inl ⟨c, fun k => ?_, fun k => ?_⟩
          · rw [hI, h3, g3, cond_false, Int.toNat_natCast, wI, h4, cond_false]
            exact (gI _ (fun c => k c true []) _ (fun _ _ _ => rfl)).trans (hc _ _)
          · rw [hS, h3, g3, cond_false, Int.toNat_natCast, wS, spec_Word_eq, h4, cond_false]
            exact (gS _ (fun c => k c true []) _ (fun _ _ _ => rfl)).trans (hc _ _)
        · refine .inr ⟨b, b', L, by omega, fun k => ?_, fun k => ?_⟩
          · rw [hI, h3, g3, cond_false, Int.toNat_natCast, wI, h4, cond_false]
            exact (gI _ (fun c => k c true []) _ (fun _ _ _ => rfl)).trans (hc _ _)
          · rw [hS, h3, g3, cond_false, Int.toNat_natCast, wS, spec_Word_eq, h4, cond_false]
            exact (gS _ (fun c => k c true []) _ (fun _ _ _ => rfl)).trans (hc _ _)

theorem eqFirmRead_eq {c : Int} {b b1 : Bool} {l : List FirmTable} (hl : l.length ≤ 2 ^ 40) (hN : 2 ^ 40 < N) (k : Bool → Option R) : g_laws_eqFirmRead_ww N c b c b1 l l k = k true := by
  unfold g_laws_eqFirmRead_ww
  rw [bne_self_eq_false, cond_false, laws_eqFirmTableS_ww_eq N hl hN, decide_eq_true rfl]
  rfl

theorem law_ReadTables_in {c : Int} {b b' : Bool} {L : List FirmTable} (hL : L.length ≤ 10) {s : ByteArray} {n : Int} (hI : ∀ k : Int → Bool → List FirmTable → Option R, g_impl_ReadTables N s n k = k c b L) (hS : ∀ k : Int → Bool → List FirmTable → Option R, g_spec_ReadTables N s n k = k c b' L) (hN : 2 ^ 40 < N) (k : Bool → Option R) : g_laws_FnExactReadTables N s n k = k true := by
  unfold g_laws_FnExactReadTables
  cases decide ((s.size : Int) > 1048576) with
  | true => rfl
  | false =>
    rw [cond_false, hS, hI, eqFirmRead_eq N (by omega) hN, Bool.not_true, cond_false]
    have hq : decide (1 + 3 * (L.length : Int) < 0) = false := decide_eq_false (by omega)
    have hr : (1 + 3 * (L.length : Int) != 1 + 3 * (L.length : Int)) = false := by simp
    have hm : ∀ K : Int → List FirmTable → Option R, g_laws_markFirmRead_w N c b 1 L K = K (1 + 3 * (L.length : Int)) (rowsFirmTable 1 L.length) := fun K => by
      unfold g_laws_markFirmRead_w
      rw [laws_markFirmTableS_w_eq N (by omega) (by omega) (by omega) hN]
    have hh : ∀ K : Int → Option R, g_laws_heldFirmRead_w N c b 1 (rowsFirmTable 1 L.length) K = K (1 + 3 * (L.length : Int)) := fun K => by
      unfold g_laws_heldFirmRead_w
      rw [laws_heldFirmTableS_w_eq N (by omega) (by omega) (by omega) hN, hq, cond_false]
    simp -implicitDefEqProofs only [hm, hh, hq, hr, cond_false, hI, eqFirmRead_eq N (show L.length ≤ 2 ^ 40 by omega) hN, Bool.not_true]

theorem law_ReadTables {s : ByteArray} {n : Int} (hN : 2 ^ 40 < N) (k : Bool → Option R) : g_laws_FnExactReadTables N s n k = k true := by
  rcases ReadTables_both N (R := R) (s := s) (n := n) hN with ⟨c, hI, hS⟩ | ⟨b, b', L, hL, hI, hS⟩
  · exact law_ReadTables_in N (L := []) (by simp) hI hS hN k
  · exact law_ReadTables_in N hL hI hS hN k

end
end Go.Sa
