import Derived.Test.YtjimjkhpahegjaaW1
set_option linter.all false
namespace Go.Sa
open Go Go.Eng Go.Proofs
section
variable {R : Type} (N : Nat)

@[simp] theorem laws_toFirmTable_eq (a0 : ByteArray) (a1 : Int) (a2 : ByteArray) (k : Option R) : g_laws_toFirmTable N a0 a1 a2 k = k := rfl

theorem laws_toFirmTableS_r_eq {l : List FirmTable} {b : Bool} (hl : l.length ≤ 2 ^ 40) (hN : 2 ^ 40 < N) (k : List FirmTable → Option R) : g_laws_toFirmTableS_r N b l k = k l := by
  unfold g_laws_toFirmTableS_r
  rw [Int.toNat_natCast, room (by omega) (by omega), dec_self]
  unfold c_laws_toFirmTableS_r_0
  refine (copyl (l_laws_toFirmTableS_r_0 N b false l (fun l4 => k l4)) l (fun x => x) k (fun f i ys x hi hy hx => ?_) (fun f ys hy => ?_) (by simp) (by omega)).trans (by rw [List.map_id'])
  · obtain ⟨y, hy1⟩ := nth_some (l := ys) (n := i) (by omega)
    simp only [l_laws_toFirmTableS_r_0, s_laws_toFirmTableS_r_0, laws_toFirmTable_eq, dec_lt hi, dec_nn, Int.toNat_natCast, elemK_some hx, elemK_some hy1, dec_lt (show i < ys.length by omega), blt_t (show i < ys.length by omega), wrap_next hi (by omega), Bool.and_true, cond_true]
  · simp only [l_laws_toFirmTableS_r_0, s_laws_toFirmTableS_r_0, dec_nlt, cond_false]

theorem laws_eqFirmTable_eq (x y : FirmTable) (k : Bool → Option R) : g_laws_eqFirmTable N x.fName x.fRev x.fBody y.fName y.fRev y.fBody k = k (decide (x = y)) := by
  unfold g_laws_eqFirmTable
  by_cases h0 : x.fName = y.fName
  case neg =>
    rw [decide_eq_false (show ¬ x = y from fun e => h0 (by rw [e]))]
    simp only [bne_dec, beq_dec, h0, decide_false, Bool.not_false, cond_true]
  simp only [bne_dec, beq_dec, h0, decide_true, Bool.not_true, cond_false]
  by_cases h1 : x.fRev = y.fRev
  case neg =>
    rw [decide_eq_false (show ¬ x = y from fun e => h1 (by rw [e]))]
    simp only [bne_dec, beq_dec, h1, decide_false, Bool.not_false, cond_true]
  simp only [bne_dec, beq_dec, h1, decide_true, Bool.not_true, cond_false]
  by_cases h2 : x.fBody = y.fBody
  case neg =>
    rw [decide_eq_false (show ¬ x = y from fun e => h2 (by rw [e]))]
    simp only [bne_dec, beq_dec, h2, decide_false, Bool.not_false, cond_true]
  simp only [bne_dec, beq_dec, h2, decide_true, Bool.not_true, cond_false]
  rw [decide_eq_true (show x = y by cases x; cases y; simp_all)]

theorem laws_eqFirmTableS_ww_eq {l m : List FirmTable} {b b1 : Bool} (hl : l.length ≤ 2 ^ 40) (hN : 2 ^ 40 < N) (k : Bool → Option R) : g_laws_eqFirmTableS_ww N b b1 l m k = k (decide (l = m)) := by
  unfold g_laws_eqFirmTableS_ww
  by_cases h : l.length = m.length
  · rw [show ((l.length : Int) != (m.length : Int)) = false by simp [h]]
    unfold c_laws_eqFirmTableS_ww_0
    refine (eql (l_laws_eqFirmTableS_ww_0 N b b1 l m (k false) (k true)) l m h (k false) (k true) (fun f i x y hi hx hy => ?_) (fun f => ?_) (by omega)).trans ?_
    · simp only [l_laws_eqFirmTableS_ww_0, s_laws_eqFirmTableS_ww_0, dec_lt hi, dec_nn, Int.toNat_natCast, elemK_some hx, elemK_some hy, dec_lt (show i < m.length by omega), laws_eqFirmTable_eq, wrap_next hi (by omega), Bool.and_true, cond_true]
    · simp only [l_laws_eqFirmTableS_ww_0, s_laws_eqFirmTableS_ww_0, dec_nlt, cond_false]
    · cases decide (l = m) <;> rfl
  · rw [show ((l.length : Int) != (m.length : Int)) = true by simp; omega]
    rw [decide_eq_false (fun e => h (by rw [e]))]
    rfl

@[simp] theorem impl_yin_eq (a lo hi : Int) (k : Bool → Option R) : g_impl_yin N a lo hi k = k (decide (a ≥ lo) && decide (a ≤ hi)) := by
  simp [g_impl_yin]

def word (n : Int) : Int := n % 4294967296

def putWord (n : Int) : ByteArray := toBytes [word n % 256, word n / 256 % 256, word n / 65536 % 256, word n / 16777216 % 256]

theorem putWord_size (n : Int) : (putWord n).size = 4 := toBytes_size _

theorem impl_PutWord_eq (n : Int) (k : ByteArray → Option R) : g_impl_PutWord N n k = k (putWord n) := by
  simp only [g_impl_PutWord, wu8, wu32, fdiv_lit _ (show (0 : Int) ≤ 256 by omega), fdiv_lit _ (show (0 : Int) ≤ 65536 by omega), fdiv_lit _ (show (0 : Int) ≤ 16777216 by omega), seg_all]
  rfl

theorem spec_l01Mod_eq {n m : Int} (hm : 0 < m) (hm2 : m ≤ 2 ^ 62) (k : Int → Option R) : g_spec_l01Mod N n m k = k (n % m) := by
  unfold g_spec_l01Mod
  obtain ⟨h1, h2⟩ := tmod_bound (n := n) hm
  rw [show (m == 0) = false by rw [beq_dec]; exact decide_eq_false (by omega), ← tmod_add (n := n) hm]
  by_cases h : n.tmod m < 0
  · rw [decide_eq_true h, if_pos h, w64 (by omega) (by omega)]; rfl
  · rw [decide_eq_false h, if_neg h]; rfl

theorem spec_Word_eq (n : Int) (k : Int → Option R) : g_spec_Word N n k = k (word n) := by
  unfold g_spec_Word
  rw [spec_l01Mod_eq N (by omega) (by omega)]
  rfl

theorem spec_PutWord_eq (n : Int) (k : ByteArray → Option R) : g_spec_PutWord N n k = k (putWord n) := by
  simp only [g_spec_PutWord, spec_Word_eq, wu8, fdiv_lit _ (show (0 : Int) ≤ 256 by omega), fdiv_lit _ (show (0 : Int) ≤ 65536 by omega), fdiv_lit _ (show (0 : Int) ≤ 16777216 by omega), seg_all]
  rfl


def byteSum (s : ByteArray) : Int := (List.range s.size).foldl (fun a i => a + bt s i) 0

theorem spec_l21Bytes_eq {s : ByteArray} (hs : s.size ≤ 2 ^ 40) (hN : 2 ^ 40 < N) (k : Int → Option R) : g_spec_l21Bytes N s k = k (byteSum s) ∧ 0 ≤ byteSum s ∧ byteSum s ≤ 255 * s.size := by
  unfold g_spec_l21Bytes c_spec_l21Bytes_0
  obtain ⟨h1, h2, h3⟩ := fold (fun f i a => l_spec_l21Bytes_0 N s (fun n2 => k n2) f a i) s.size (fun i a => a + bt s i) (fun i a => 0 ≤ a ∧ a ≤ 255 * (i : Int)) k (fun f i a hi ha => by
      obtain ⟨b1, b2⟩ := bt_bound s i
      simp only [l_spec_l21Bytes_0, s_spec_l21Bytes_0, dec_lt hi, dec_nn, Int.toNat_natCast, wrap_next hi (by omega), Bool.and_true, cond_true, w64 (show -9223372036854775808 ≤ bt s i by omega) (show bt s i < 9223372036854775808 by omega), w64 (show -9223372036854775808 ≤ a + bt s i by omega) (show a + bt s i < 9223372036854775808 by omega)]
      exact ⟨trivial, by omega, by omega⟩) (fun f a ha => by
      simp only [l_spec_l21Bytes_0, s_spec_l21Bytes_0, dec_nlt, cond_false]) (s := 0) ⟨by omega, by omega⟩ (f := N) (by omega)
  exact ⟨h1, h2, h3⟩

theorem impl_ybyteSum_eq {s : ByteArray} (hs : s.size ≤ 2 ^ 40) (hN : 2 ^ 40 < N) (k : Int → Option R) : g_impl_ybyteSum N s k = k (byteSum s % 256) := by
  unfold g_impl_ybyteSum c_impl_ybyteSum_0
  obtain ⟨h1, h2, h3⟩ := fold (fun f i a => l_impl_ybyteSum_0 N s s.size (fun n3 => k (IntKind.wrap .i64 (((BitVec.ofInt 64 n3 &&& BitVec.ofInt 64 255).toNat : Nat) : Int))) f a i) s.size (fun i a => a + bt s i) (fun i a => 0 ≤ a ∧ a ≤ 255 * (i : Int)) (fun n3 => k (IntKind.wrap .i64 (((BitVec.ofInt 64 n3 &&& BitVec.ofInt 64 255).toNat : Nat) : Int))) (fun f i a hi ha => by
      obtain ⟨b1, b2⟩ := bt_bound s i
      simp only [l_impl_ybyteSum_0, s_impl_ybyteSum_0, dec_lt hi, dec_nn, Int.toNat_natCast, wrap_next hi (by omega), Bool.and_true, cond_true, w64 (show -9223372036854775808 ≤ bt s i by omega) (show bt s i < 9223372036854775808 by omega), w64 (show -9223372036854775808 ≤ a + bt s i by omega) (show a + bt s i < 9223372036854775808 by omega)]
      exact ⟨trivial, by omega, by omega⟩) (fun f a ha => by
      simp only [l_impl_ybyteSum_0, s_impl_ybyteSum_0, dec_nlt, cond_false]) (s := 0) ⟨by omega, by omega⟩ (f := N) (by omega)
  refine h1.trans ?_
  rw [and255]
  rfl

def wordAt (s : ByteArray) (i : Nat) : Int := bt s i + bt s (i + 1) * 256 + bt s (i + 2) * 65536 + bt s (i + 3) * 16777216

theorem wordAt_bound (s : ByteArray) (i : Nat) : 0 ≤ wordAt s i ∧ wordAt s i < 4294967296 := by
  have h0 := bt_bound s i
  have h1 := bt_bound s (i + 1)
  have h2 := bt_bound s (i + 2)
  have h3 := bt_bound s (i + 3)
  unfold wordAt
  omega

theorem spec_l01Word_eq {s : ByteArray} {i : Nat} (h : i + 4 ≤ s.size) (hs : s.size ≤ 2 ^ 60) (k : Int → Option R) : g_spec_l01Word N s (i : Int) k = k (wordAt s i) := by
  have h0 := bt_bound s i
  have h1 := bt_bound s (i + 1)
  have h2 := bt_bound s (i + 2)
  have h3 := bt_bound s (i + 3)
  have e1 : IntKind.wrap .i64 ((i : Int) + 1) = ((i + 1 : Nat) : Int) := by rw [w64 (by omega) (by omega)]; omega
  have e2 : IntKind.wrap .i64 ((i : Int) + 2) = ((i + 2 : Nat) : Int) := by rw [w64 (by omega) (by omega)]; omega
  have e3 : IntKind.wrap .i64 ((i : Int) + 3) = ((i + 3 : Nat) : Int) := by rw [w64 (by omega) (by omega)]; omega
  simp only [g_spec_l01Word, e1, e2, e3, dec_nn, dec_lt (show i < s.size by omega), dec_lt (show i + 1 < s.size by omega), dec_lt (show i + 2 < s.size by omega), dec_lt (show i + 3 < s.size by omega), Bool.and_true, cond_true, Int.toNat_natCast]
  rw [w64 (n := bt s i) (by omega) (by omega), w64 (n := bt s (i + 1)) (by omega) (by omega), w64 (n := bt s (i + 2)) (by omega) (by omega), w64 (n := bt s (i + 3)) (by omega) (by omega), w64 (n := bt s (i + 1) * 256) (by omega) (by omega), w64 (n := bt s (i + 2) * 65536) (by omega) (by omega), w64 (n := bt s (i + 3) * 16777216) (by omega) (by omega), w64 (n := bt s i + bt s (i + 1) * 256) (by omega) (by omega), w64 (n := bt s i + bt s (i + 1) * 256 + bt s (i + 2) * 65536) (by omega) (by omega), w64 (n := bt s i + bt s (i + 1) * 256 + bt s (i + 2) * 65536 + bt s (i + 3) * 16777216) (by omega) (by omega)]
  rfl

theorem or_word (a b c d : Int) (ha : 0 ≤ a ∧ a ≤ 255) (hb : 0 ≤ b ∧ b ≤ 255) (hc : 0 ≤ c ∧ c ≤ 255) (hd : 0 ≤ d ∧ d ≤ 255) :
    IntKind.wrap .i64 (((BitVec.ofInt 64 (IntKind.wrap .i64 (((BitVec.ofInt 64 (IntKind.wrap .i64 (((BitVec.ofInt 64 a ||| BitVec.ofInt 64 (b * 256)).toNat : Nat) : Int)) ||| BitVec.ofInt 64 (c * 65536)).toNat : Nat) : Int)) ||| BitVec.ofInt 64 (d * 16777216)).toNat : Nat) : Int) = a + b * 256 + c * 65536 + d * 16777216 := by
  have com : ∀ x y : Int, (BitVec.ofInt 64 x ||| BitVec.ofInt 64 y) = (BitVec.ofInt 64 y ||| BitVec.ofInt 64 x) := fun x y => BitVec.or_comm _ _
  have h1 := or_add (a := b * 256) (b := a) 8 (by omega) (by omega) (by omega) (by omega) (by omega)
  have h2 := or_add (a := c * 65536) (b := b * 256 + a) 16 (by omega) (by omega) (by omega) (by omega) (by omega)
  have h3 := or_add (a := d * 16777216) (b := c * 65536 + (b * 256 + a)) 24 (by omega) (by omega) (by omega) (by omega) (by omega)
  rw [com a, h1, com (b * 256 + a), h2, com (c * 65536 + (b * 256 + a)), h3]
  omega

theorem impl_ywordAt_eq {s : ByteArray} {i : Nat} (h : i + 4 ≤ s.size) (hs : s.size ≤ 2 ^ 60) (k : Int → Option R) : g_impl_ywordAt N s (i : Int) k = k (wordAt s i) := by
  have h0 := bt_bound s i
  have h1 := bt_bound s (i + 1)
  have h2 := bt_bound s (i + 2)
  have h3 := bt_bound s (i + 3)
  have e1 : IntKind.wrap .i64 ((i : Int) + 1) = ((i + 1 : Nat) : Int) := by rw [w64 (by omega) (by omega)]; omega
  have e2 : IntKind.wrap .i64 ((i : Int) + 2) = ((i + 2 : Nat) : Int) := by rw [w64 (by omega) (by omega)]; omega
  have e3 : IntKind.wrap .i64 ((i : Int) + 3) = ((i + 3 : Nat) : Int) := by rw [w64 (by omega) (by omega)]; omega
  simp only [g_impl_ywordAt, e1, e2, e3, dec_nn, dec_lt (show i < s.size by omega), dec_lt (show i + 1 < s.size by omega), dec_lt (show i + 2 < s.size by omega), dec_lt (show i + 3 < s.size by omega), Bool.and_true, cond_true, Int.toNat_natCast]
  rw [w64 (n := bt s i) (by omega) (by omega), w64 (n := bt s (i + 1)) (by omega) (by omega), w64 (n := bt s (i + 2)) (by omega) (by omega), w64 (n := bt s (i + 3)) (by omega) (by omega), w64 (n := bt s (i + 1) * 256) (by omega) (by omega), w64 (n := bt s (i + 2) * 65536) (by omega) (by omega), w64 (n := bt s (i + 3) * 16777216) (by omega) (by omega), or_word _ _ _ _ h0 h1 h2 h3]
  rfl

def wordSum (s : ByteArray) : Int := (List.range (s.size / 4)).foldl (fun a j => a + wordAt s (4 * j)) 0

theorem spec_l21Words_eq {s : ByteArray} (hs : s.size ≤ 2 ^ 30) (hN : 2 ^ 40 < N) (k : Int → Option R) : g_spec_l21Words N s k = k (wordSum s) ∧ 0 ≤ wordSum s ∧ wordSum s ≤ 4294967296 * (s.size / 4 : Nat) := by
  unfold g_spec_l21Words c_spec_l21Words_0
  obtain ⟨h1, h2, h3⟩ := fold (fun f i a => l_spec_l21Words_0 N s (fun n3 => k n3) f a (4 * i)) (s.size / 4) (fun j a => a + wordAt s (4 * j)) (fun i a => 0 ≤ a ∧ a ≤ 4294967296 * (i : Int)) k (fun f i a hi ha => by
      obtain ⟨b1, b2⟩ := wordAt_bound s (4 * i)
      have e4 : (4 * (i : Int)) = ((4 * i : Nat) : Int) := by omega
      have e5 : IntKind.wrap .i64 (((4 * i : Nat) : Int) + 4) = 4 * ((i + 1 : Nat) : Int) := by rw [w64 (by omega) (by omega)]; omega
      simp only [e4, l_spec_l21Words_0, s_spec_l21Words_0, e5, decide_eq_true (show 4 * ((i + 1 : Nat) : Int) ≤ (s.size : Int) by omega), spec_l01Word_eq N (show 4 * i + 4 ≤ s.size by omega) (by omega), cond_true, w64 (show -9223372036854775808 ≤ a + wordAt s (4 * i) by omega) (show a + wordAt s (4 * i) < 9223372036854775808 by omega)]
      exact ⟨trivial, by omega, by omega⟩) (fun f a ha => by
      have e4 : (4 * ((s.size / 4 : Nat) : Int)) = ((4 * (s.size / 4) : Nat) : Int) := by omega
      simp only [e4, l_spec_l21Words_0, s_spec_l21Words_0, w64 (show -9223372036854775808 ≤ ((4 * (s.size / 4) : Nat) : Int) + 4 by omega) (show ((4 * (s.size / 4) : Nat) : Int) + 4 < 9223372036854775808 by omega), decide_eq_false (show ¬ ((4 * (s.size / 4) : Nat) : Int) + 4 ≤ (s.size : Int) by omega), cond_false]) (s := 0) ⟨by omega, by omega⟩ (f := N) (by omega)
  exact ⟨h1, h2, h3⟩

theorem impl_Word_eq (n : Int) (k : Int → Option R) : g_impl_Word N n k = k (word n) := by
  unfold g_impl_Word
  rw [wu32, w64 (by omega) (by omega)]
  rfl

theorem impl_ywordSum_eq {s : ByteArray} (hs : s.size ≤ 2 ^ 30) (h4 : s.size % 4 = 0) (hN : 2 ^ 40 < N) (k : Int → Option R) : g_impl_ywordSum N s k = k (word (wordSum s)) := by
  unfold g_impl_ywordSum c_impl_ywordSum_0
  obtain ⟨h1, h2, h3⟩ := fold (fun f i a => l_impl_ywordSum_0 N s (fun n3 => g_impl_Word N n3 fun n4 => k n4) f a (4 * i)) (s.size / 4) (fun j a => a + wordAt s (4 * j)) (fun i a => 0 ≤ a ∧ a ≤ 4294967296 * (i : Int)) (fun n3 => g_impl_Word N n3 fun n4 => k n4) (fun f i a hi ha => by
      obtain ⟨b1, b2⟩ := wordAt_bound s (4 * i)
      have e4 : (4 * (i : Int)) = ((4 * i : Nat) : Int) := by omega
      have e5 : IntKind.wrap .i64 (((4 * i : Nat) : Int) + 4) = 4 * ((i + 1 : Nat) : Int) := by rw [w64 (by omega) (by omega)]; omega
      simp only [e4, l_impl_ywordSum_0, s_impl_ywordSum_0, e5, dec_lt (show 4 * i < s.size by omega), impl_ywordAt_eq N (show 4 * i + 4 ≤ s.size by omega) (by omega), cond_true, w64 (show -9223372036854775808 ≤ a + wordAt s (4 * i) by omega) (show a + wordAt s (4 * i) < 9223372036854775808 by omega)]
      exact ⟨trivial, by omega, by omega⟩) (fun f a ha => by
      have e4 : (4 * ((s.size / 4 : Nat) : Int)) = (s.size : Int) := by omega
      simp only [e4, l_impl_ywordSum_0, s_impl_ywordSum_0, dec_nlt, cond_false]) (s := 0) ⟨by omega, by omega⟩ (f := N) (by omega)
  refine h1.trans ?_
  rw [impl_Word_eq]
  rfl


def nameOk (s : ByteArray) : Bool := (s.size == 4) && !((List.range s.size).any fun i => decide (bt s i < 65) || decide (bt s i > 90))

theorem impl_ytableName_eq {s : ByteArray} (hs : s.size ≤ 2 ^ 40) (hN : 2 ^ 40 < N) (k : Bool → Option R) : g_impl_ytableName N s k = k (nameOk s) := by
  unfold g_impl_ytableName c_impl_ytableName_0 nameOk
  have hg : ((s.size : Int) == 4) = (s.size == 4) := by rw [Bool.eq_iff_iff]; simp; omega
  rw [hg, srch (l_impl_ytableName_0 N s s.size (k false) (k (s.size == 4))) s.size (fun i => decide (bt s i < 65) || decide (bt s i > 90)) (k false) (k (s.size == 4)) (fun f i hi => by
      simp only [l_impl_ytableName_0, s_impl_ytableName_0, dec_lt hi, dec_nn, Int.toNat_natCast, wrap_next hi (by omega), Bool.and_true, cond_true, cond_somes, oK_some_eq, Bool.cond_true_left]) (fun f => by
      simp only [l_impl_ytableName_0, s_impl_ytableName_0, dec_nlt, cond_false]) (by omega)]
  cases (List.range s.size).any fun i => decide (bt s i < 65) || decide (bt s i > 90)
  · simp
  · simp

theorem spec_l21Name_eq {s : ByteArray} (hN : 2 ^ 40 < N) (k : Bool → Option R) : g_spec_l21Name N s k = k (nameOk s) := by
  unfold g_spec_l21Name c_spec_l21Name_0 nameOk
  have hg : ((s.size : Int) != 4) = !(s.size == 4) := by rw [Bool.eq_iff_iff]; simp; omega
  rw [hg]
  by_cases h : s.size = 4
  · have e4 : (4 : Int) = ((4 : Nat) : Int) := rfl
    rw [h, srch (l_spec_l21Name_0 N s (k false) (k true)) 4 (fun i => decide (bt s i < 65) || decide (bt s i > 90)) (k false) (k true) (fun f i hi => by
      simp only [l_spec_l21Name_0, s_spec_l21Name_0, h, e4, dec_lt hi, dec_nn, Int.toNat_natCast, wrap_next hi (by omega), Bool.and_true, cond_true, cond_somes, oK_some_eq, Bool.cond_true_left]) (fun f => by
      simp only [l_spec_l21Name_0, s_spec_l21Name_0, e4, dec_nlt, cond_false]) (by omega)]
    cases (List.range 4).any fun i => decide (bt s i < 65) || decide (bt s i > 90) <;> rfl
  · rw [show (s.size == 4) = false by simpa using h]; rfl

def tblOk (x : FirmTable) : Bool := nameOk x.fName && (decide (x.fRev ≥ 0) && decide (x.fRev ≤ 255) && (decide (x.fBody.size ≤ 200) && x.fBody.size % 4 == 0))

theorem tmod4 (n : Nat) : (Int.tmod (n : Int) 4 == 0) = (n % 4 == 0) := by
  rw [Int.tmod_eq_emod_of_nonneg (by omega)]
  rw [Bool.eq_iff_iff]; simp; omega

theorem impl_PutTables_1_eq (x : FirmTable) (hx : x.fName.size ≤ 2 ^ 40) (hN : 2 ^ 40 < N) (k : Bool → Option R) : g_impl_PutTables_1 N x.fName x.fRev x.fBody k = k (!tblOk x) := by
  unfold g_impl_PutTables_1 g_impl_ytableOk
  have hg : decide ((x.fBody.size : Int) ≤ 200) = decide (x.fBody.size ≤ 200) := decide_eq_decide.2 (by omega)
  simp only [impl_ytableName_eq N hx hN, impl_yin_eq, hg, tmod4, cond_somes, oK_some_eq]
  refine congrArg k ?_
  unfold tblOk
  cases nameOk x.fName <;> cases (decide (x.fRev ≥ 0) && decide (x.fRev ≤ 255)) <;> cases decide (x.fBody.size ≤ 200) <;> rfl

theorem indexFunc_table_eq {l : List FirmTable} {b : Bool} (hl : l.length ≤ 2 ^ 40) (hx : ∀ x ∈ l, x.fName.size ≤ 2 ^ 40) (hN : 2 ^ 40 < N) (k : Int → Option R) : g_slices_IndexFunc_FirmTable_Fimpl_PutTables_1_r N b l k = k (fstAt l.length (fun i => atD l i (fun x => !tblOk x) true)) := by
  unfold g_slices_IndexFunc_FirmTable_Fimpl_PutTables_1_r c_slices_IndexFunc_FirmTable_Fimpl_PutTables_1_r_0
  rw [srchI (l_slices_IndexFunc_FirmTable_Fimpl_PutTables_1_r_0 N b l.length l (fun n3 => k n3) (k (-1))) l.length (fun i => atD l i (fun x => !tblOk x) true) (fun n3 => k n3) (k (-1)) (fun f i hi => ?_) (fun f => ?_) (by omega)]
  · unfold fstAt
    split <;> rfl
  · obtain ⟨x, hx1⟩ := nth_some hi
    have hm : x ∈ l := by rw [nth_eq] at hx1; exact List.mem_of_getElem? hx1
    simp only [l_slices_IndexFunc_FirmTable_Fimpl_PutTables_1_r_0, s_slices_IndexFunc_FirmTable_Fimpl_PutTables_1_r_0, dec_lt hi, dec_nn, Int.toNat_natCast, elemK_some hx1, wrap_next hi (by omega), Bool.and_true, cond_true, atD_some hx1, impl_PutTables_1_eq N x (hx x hm) hN]
  · simp only [l_slices_IndexFunc_FirmTable_Fimpl_PutTables_1_r_0, s_slices_IndexFunc_FirmTable_Fimpl_PutTables_1_r_0, dec_nlt, cond_false]

/-- A table as it stands in memory. -/
def tblText (x : FirmTable) : ByteArray :=
  (x.fName ++ putWord ((x.fBody.size + 8) * 65536 + x.fRev * 256 + (-(byteSum (x.fName ++ putWord ((x.fBody.size + 8) * 65536 + x.fRev * 256) ++ x.fBody))) % 256)) ++ x.fBody

theorem tblText_size (x : FirmTable) : (tblText x).size = x.fName.size + 4 + x.fBody.size := by
  unfold tblText
  rw [ByteArray.size_append, ByteArray.size_append, putWord_size]

theorem spec_l21Table_eq (x : FirmTable) (h1 : x.fName.size ≤ 2 ^ 30) (h2 : x.fBody.size ≤ 2 ^ 30) (hN : 2 ^ 40 < N) (k : ByteArray → Option R) : g_spec_l21Table N x.fName x.fRev x.fBody k = k (cond (tblOk x) (tblText x) ⟨[].toArray⟩) := by
  unfold g_spec_l21Table
  have hg : decide ((x.fBody.size : Int) > 200) = !decide (x.fBody.size ≤ 200) := by rw [Bool.eq_iff_iff]; simp; omega
  have hb : (Int.tmod (x.fBody.size : Int) 4 != 0) = !(x.fBody.size % 4 == 0) := by rw [← tmod4]; rfl
  have hq : (!nameOk x.fName || (decide (x.fRev < 0) || (decide (x.fRev > 255) || (!decide (x.fBody.size ≤ 200) || !(x.fBody.size % 4 == 0))))) = !tblOk x := by
    unfold tblOk
    have e1 : decide (x.fRev < 0) = !decide (x.fRev ≥ 0) := by rw [Bool.eq_iff_iff]; simp
    have e2 : decide (x.fRev > 255) = !decide (x.fRev ≤ 255) := by rw [Bool.eq_iff_iff]; simp
    rw [e1, e2]
    cases nameOk x.fName <;> cases decide (x.fRev ≥ 0) <;> cases decide (x.fRev ≤ 255) <;> cases decide (x.fBody.size ≤ 200) <;> rfl
  simp only [spec_l21Name_eq N hN, hg, hb, cond_somes, oK_some_eq, Bool.cond_true_left, hq]
  by_cases h : tblOk x = true
  · rw [h]
    simp only [Bool.not_true, cond_false, cond_true]
    have hr : (0 ≤ x.fRev ∧ x.fRev ≤ 255) ∧ x.fBody.size ≤ 200 := by
      unfold tblOk at h
      simp only [Bool.and_eq_true, decide_eq_true_eq] at h
      exact ⟨⟨h.2.1.1, h.2.1.2⟩, h.2.2.1⟩
    have ew : IntKind.wrap .i64 (IntKind.wrap .i64 (IntKind.wrap .i64 ((x.fBody.size : Int) + 8) * 65536) + IntKind.wrap .i64 (x.fRev * 256)) = (x.fBody.size + 8) * 65536 + x.fRev * 256 := by
      rw [w64 (n := (x.fBody.size : Int) + 8) (by omega) (by omega), w64 (n := ((x.fBody.size : Int) + 8) * 65536) (by omega) (by omega), w64 (n := x.fRev * 256) (by omega) (by omega), w64 (by omega) (by omega)]
    have hsz : ∀ w, ((x.fName ++ putWord w) ++ x.fBody).size = x.fName.size + 4 + x.fBody.size := fun w => by rw [ByteArray.size_append, ByteArray.size_append, putWord_size]
    have hsz2 : ∀ w, (x.fName ++ putWord w).size = x.fName.size + 4 := fun w => by rw [ByteArray.size_append, putWord_size]
    obtain ⟨hb1, hb2, hb3⟩ := spec_l21Bytes_eq N (s := x.fName ++ putWord ((x.fBody.size + 8) * 65536 + x.fRev * 256) ++ x.fBody) (by rw [hsz]; omega) hN (fun _ => (none : Option R))
    rw [hsz] at hb3
    simp only [ew, spec_PutWord_eq, putWord_size, hsz2, ble_t (show x.fName.size + 4 ≤ 9223372036854775807 by omega), ble_t (show x.fName.size + 4 + x.fBody.size ≤ 9223372036854775807 by omega), cond_true,
      fun k => (spec_l21Bytes_eq N (s := x.fName ++ putWord ((x.fBody.size + 8) * 65536 + x.fRev * 256) ++ x.fBody) (by rw [hsz]; omega) hN (R := R) k).1, spec_l01Mod_eq N (show (0 : Int) < 256 by omega) (by omega)]
    have en : IntKind.wrap .i64 (0 - byteSum (x.fName ++ putWord ((x.fBody.size + 8) * 65536 + x.fRev * 256) ++ x.fBody)) = -byteSum (x.fName ++ putWord ((x.fBody.size + 8) * 65536 + x.fRev * 256) ++ x.fBody) := by
      rw [w64 (by omega) (by omega)]; omega
    rw [en, w64 (by omega) (by omega)]
    rfl
  · rw [Bool.not_eq_true] at h
    rw [h]; rfl


def runE {S : Type} (bad : Nat → S → Bool) (g : Nat → S → S) : Nat → Nat → S → Option S
  | 0, _, s => some s
  | d + 1, i, s => cond (bad i s) none (runE bad g d (i + 1) (g i s))

/-- A fold that may be left, by a test on its state. -/
theorem foldS {S : Type} (l : Nat → Int → S → Option R) (n : Nat) (bad : Nat → S → Bool) (g : Nat → S → S) (I : Nat → S → Prop) (k : S → Option R) (k0 : Option R)
    (h : ∀ f i s, i < n → I i s → l (f + 1) (i : Int) s = cond (bad i s) k0 (l f ((i + 1 : Nat) : Int) (g i s)) ∧ (bad i s = false → I (i + 1) (g i s)))
    (he : ∀ f s, I n s → l (f + 1) (n : Int) s = k s) {s : S} (hs : I 0 s) {f : Nat} (hf : n < f) :
    (l f 0 s = match runE bad g n 0 s with | some s' => k s' | none => k0) ∧ ∀ s', runE bad g n 0 s = some s' → I n s' := by
  have key : ∀ d i f s, i + d = n → d < f → I i s → (l f (i : Int) s = match runE bad g d i s with | some s' => k s' | none => k0) ∧ ∀ s', runE bad g d i s = some s' → I n s' := by
    intro d
    induction d with
    | zero =>
      intro i f s hi hf hs
      obtain ⟨f, rfl⟩ : ∃ j, f = j + 1 := ⟨f - 1, by omega⟩
      have : i = n := by omega
      subst this
      refine ⟨he f s hs, fun s' e => ?_⟩
      simp only [runE, Option.some.injEq] at e
      subst e
      exact hs
    | succ d ih =>
      intro i f s hi hf hs
      obtain ⟨f, rfl⟩ : ∃ j, f = j + 1 := ⟨f - 1, by omega⟩
      obtain ⟨h1, h2⟩ := h f i s (by omega) hs
      rw [h1]
      simp only [runE]
      cases hb : bad i s with
      | true => exact ⟨rfl, fun s' e => by cases e⟩
      | false => exact ih (i + 1) f _ (by omega) (by omega) (h2 hb)
  exact key n 0 f s (by omega) hf hs

def szFT (x : FirmTable) (n : Int) : Int := cond (decide (n - (x.fName.size : Int) < 0)) (-1) (cond (decide (n - (x.fName.size : Int) - (x.fBody.size : Int) < 0)) (-1) (n - (x.fName.size : Int) - (x.fBody.size : Int)))

theorem laws_szFirmTable_eq (x : FirmTable) {n : Int} (h0 : 0 ≤ n) (h1 : n ≤ 2 ^ 40) (h2 : x.fName.size ≤ 9223372036854775807) (h3 : x.fBody.size ≤ 9223372036854775807) (k : Int → Option R) : g_laws_szFirmTable N x.fName x.fRev x.fBody n k = k (szFT x n) := by
  unfold g_laws_szFirmTable szFT
  rw [w64 (n := n - (x.fName.size : Int)) (by omega) (by omega)]
  by_cases h : n - (x.fName.size : Int) < 0
  · rw [decide_eq_true h]; rfl
  · rw [decide_eq_false h, w64 (n := n - (x.fName.size : Int) - (x.fBody.size : Int)) (by omega) (by omega)]
    cases decide (n - (x.fName.size : Int) - (x.fBody.size : Int) < 0) <;> rfl

theorem szFT_le {x : FirmTable} {n : Int} (h : 0 ≤ szFT x n) : szFT x n ≤ n ∧ (x.fName.size : Int) ≤ n ∧ (x.fBody.size : Int) ≤ n := by
  unfold szFT at h ⊢
  by_cases h1 : n - (x.fName.size : Int) < 0
  · rw [decide_eq_true h1] at h; simp at h
  · rw [decide_eq_false h1] at h ⊢
    by_cases h2 : n - (x.fName.size : Int) - (x.fBody.size : Int) < 0
    · rw [decide_eq_true h2] at h; simp at h
    · rw [decide_eq_false h2]
      simp only [cond_false]
      omega

theorem laws_szFirmTableS_eq {l : List FirmTable} {b : Bool} {n : Int} (h0 : 0 ≤ n) (h1 : n ≤ 2 ^ 30) (hl : l.length ≤ maxLen) (hx : ∀ x ∈ l, x.fName.size ≤ 9223372036854775807 ∧ x.fBody.size ≤ 9223372036854775807) (hN : 2 ^ 40 < N) :
    ∃ v, (∀ k : Int → Option R, g_laws_szFirmTableS_r N b n l k = k v) ∧ (v < 0 ∨ (0 ≤ v ∧ (l.length : Int) ≤ n ∧ ∀ x ∈ l, (x.fName.size : Int) ≤ n ∧ (x.fBody.size : Int) ≤ n)) := by
  have hl : l.length ≤ 9223372036854775807 := hl
  by_cases hc : n - (l.length : Int) < 0
  · refine ⟨-1, fun k => ?_, Or.inl (by omega)⟩
    unfold g_laws_szFirmTableS_r
    rw [w64 (by omega) (by omega), decide_eq_true hc]; rfl
  · have key := fun (k : Int → Option R) => foldS (fun f i s => l_laws_szFirmTableS_r_0 N b l (fun n4 => k (-1)) (fun n5 => k n5) f s i) l.length (fun i s => atD l i (fun x => decide (szFT x s < 0)) true) (fun i s => atD l i (fun x => szFT x s) s)
      (fun i s => 0 ≤ s ∧ s ≤ n ∧ ∀ j x, j < i → nth l j = some x → (x.fName.size : Int) ≤ n ∧ (x.fBody.size : Int) ≤ n) k (k (-1)) (fun f i s hi hs => by
        obtain ⟨x, hx1⟩ := nth_some hi
        have hm : x ∈ l := by rw [nth_eq] at hx1; exact List.mem_of_getElem? hx1
        obtain ⟨q1, q2⟩ := hx x hm
        simp only [l_laws_szFirmTableS_r_0, s_laws_szFirmTableS_r_0, dec_lt hi, dec_nn, Int.toNat_natCast, elemK_some hx1, wrap_next hi (by omega), Bool.and_true, cond_true, atD_some hx1, laws_szFirmTable_eq N x hs.1 (by omega) q1 q2]
        refine ⟨trivial, fun hb => ?_⟩
        have hb : 0 ≤ szFT x s := by simpa using hb
        have := szFT_le hb
        refine ⟨hb, by omega, fun j y hj hy => ?_⟩
        by_cases hji : j = i
        · subst hji
          rw [hx1] at hy
          cases hy
          omega
        · exact hs.2.2 j y (by omega) hy) (fun f s hs => by
        simp only [l_laws_szFirmTableS_r_0, s_laws_szFirmTableS_r_0, dec_nlt, cond_false]) (s := n - (l.length : Int)) ⟨by omega, by omega, fun j x hj => absurd hj (by omega)⟩ (f := N) (by omega)
    have hrun : ∀ k : Int → Option R, g_laws_szFirmTableS_r N b n l k = l_laws_szFirmTableS_r_0 N b l (fun n4 => k (-1)) (fun n5 => k n5) N (n - (l.length : Int)) 0 := fun k => by
      unfold g_laws_szFirmTableS_r c_laws_szFirmTableS_r_0
      rw [w64 (by omega) (by omega), decide_eq_false hc]; rfl
    cases hr : runE (fun i s => atD l i (fun x => decide (szFT x s < 0)) true) (fun i s => atD l i (fun x => szFT x s) s) l.length 0 (n - (l.length : Int)) with
    | none =>
      refine ⟨-1, fun k => ?_, Or.inl (by omega)⟩
      rw [hrun k]
      have := (key k).1
      rw [hr] at this
      exact this
    | some v =>
      have h2 := (key (fun _ => none)).2 v hr
      refine ⟨v, fun k => ?_, Or.inr ⟨h2.1, by omega, fun x hm => ?_⟩⟩
      · rw [hrun k]
        have := (key k).1
        rw [hr] at this
        exact this
      · obtain ⟨j, hj⟩ := List.getElem?_of_mem hm
        have hlt : j < l.length := by
          rcases Nat.lt_or_ge j l.length with h | h
          · exact h
          · rw [List.getElem?_eq_none h] at hj; cases hj
        exact h2.2.2 j x hlt (by rw [nth_eq]; exact hj)

def memOk (s : ByteArray) : Bool := decide ((s.size : Int) ≥ 256) && (decide ((s.size : Int) ≤ 65536) && (Int.tmod (s.size : Int) 256 == 0))

theorem impl_ymemOk_eq (s : ByteArray) (k : Bool → Option R) : g_impl_ymemOk N s k = k (memOk s) := by
  unfold g_impl_ymemOk memOk
  cases decide ((s.size : Int) ≥ 256) <;> cases decide ((s.size : Int) ≤ 65536) <;> rfl

theorem spec_MemFault_eq (s : ByteArray) (k : Int → Option R) : g_spec_MemFault N s k = k (cond (memOk s) 0 1) := by
  have e : ((s.size : Int) == 0 || (Int.tmod (s.size : Int) 256 != 0 || decide ((s.size : Int) > 65536))) = !memOk s := by
    unfold memOk
    rw [Int.tmod_eq_emod_of_nonneg (by omega), Bool.eq_iff_iff]
    have h0 : (0 : Int) ≤ (s.size : Int) := by omega
    generalize (s.size : Int) = m at h0 ⊢
    simp
    omega
  unfold g_spec_MemFault
  simp only [cond_somes, oK_some_eq, Bool.cond_true_left, e]
  cases memOk s <;> rfl

def fitsAt (m n t : Int) : Bool := decide (n ≥ 0) && (decide (t ≥ 0) && (decide (n ≤ m) && decide (t ≤ IntKind.wrap .i64 (m - n))))

theorem impl_yfits_eq (m n t : Int) (k : Bool → Option R) : g_impl_yfits N m n t k = k (fitsAt m n t) := by
  unfold g_impl_yfits fitsAt
  cases decide (n ≥ 0) <;> cases decide (t ≥ 0) <;> cases decide (n ≤ m) <;> rfl

theorem spec_l10In_eq (s : ByteArray) (n t : Int) (k : Bool → Option R) : g_spec_l10In N s n t k = k (fitsAt s.size n t) := by
  unfold g_spec_l10In fitsAt
  cases decide (n ≥ 0) <;> cases decide (t ≥ 0) <;> cases decide (n ≤ (s.size : Int)) <;> rfl

def splice (s : ByteArray) (a : Nat) (t : ByteArray) : ByteArray := (s.extract 0 a ++ t) ++ s.extract (a + t.size) s.size

theorem fits_nat {m : Nat} {n t : Int} (hm : m ≤ 2 ^ 60) (h : fitsAt m n t = true) : 0 ≤ n ∧ 0 ≤ t ∧ n + t ≤ m := by
  unfold fitsAt at h
  simp only [Bool.and_eq_true, decide_eq_true_eq] at h
  obtain ⟨h1, h2, h3, h4⟩ := h
  rw [w64 (by omega) (by omega)] at h4
  omega

theorem impl_ysplice_eq {s t : ByteArray} {n : Int} (hs : s.size ≤ 2 ^ 60) (h : fitsAt s.size n t.size = true) (k : ByteArray → Option R) : g_impl_ysplice N s n t k = k (splice s n.toNat t) := by
  obtain ⟨h1, h2, h3⟩ := fits_nat hs h
  obtain ⟨a, rfl⟩ := Int.eq_ofNat_of_zero_le h1
  unfold g_impl_ysplice splice
  have e1 : IntKind.wrap .i64 ((a : Int) + (t.size : Int)) = ((a + t.size : Nat) : Int) := by rw [w64 (by omega) (by omega)]; omega
  simp only [e1, dec_nn, Int.toNat_natCast, decide_eq_true (show ((a : Int) ≤ (s.size : Int)) by omega), decide_eq_true (show (((a + t.size : Nat) : Int) ≤ (s.size : Int)) by omega), Bool.and_true, cond_true, Int.le_refl, decide_true]
  rw [ble_t (by rw [ByteArray.size_extract]; omega), cond_true, ble_t (by rw [ByteArray.size_append, ByteArray.size_extract, ByteArray.size_extract]; omega), cond_true]


theorem word_neg (n : Int) : word (0 - word n) = word (-n) := by unfold word; omega

theorem putWord_congr {a b : Int} (h : word a = word b) : putWord a = putWord b := by unfold putWord; rw [h]

def tblStep (base : Int) (st : ByteArray × ByteArray) (x : FirmTable) : ByteArray × ByteArray := (st.1 ++ putWord (IntKind.wrap .i64 (base + (st.2.size : Int))), st.2 ++ tblText x)

def tblBase (n : Int) (m : Nat) : Int := IntKind.wrap .i64 (IntKind.wrap .i64 (n + 12) + IntKind.wrap .i64 (4 * (m : Int)))

def tblRows (n : Int) (l : List FirmTable) : ByteArray × ByteArray := l.foldl (tblStep (tblBase n l.length)) (⟨[(70 : UInt8), (73 : UInt8), (82 : UInt8), (77 : UInt8)].toArray⟩ ++ putWord l.length, ⟨[].toArray⟩)

theorem tblOk_facts {x : FirmTable} (h : tblOk x = true) : x.fName.size = 4 ∧ 0 ≤ x.fRev ∧ x.fRev ≤ 255 ∧ x.fBody.size ≤ 200 ∧ x.fBody.size % 4 = 0 := by
  unfold tblOk nameOk at h
  simp only [Bool.and_eq_true, decide_eq_true_eq, beq_iff_eq] at h
  omega

theorem tblText_size_ok {x : FirmTable} (h : tblOk x = true) : (tblText x).size = 8 + x.fBody.size := by
  rw [tblText_size, (tblOk_facts h).1]

theorem impl_PutTables_loop {s : ByteArray} {n : Int} {l : List FirmTable} {b : Bool} (hl : l.length ≤ 10) (hx : ∀ x ∈ l, tblOk x = true) (hN : 2 ^ 40 < N) (k : ByteArray → ByteArray → Option R) :
    c_impl_PutTables_w_0 N s n (tblBase n l.length) b l.length l (⟨[(70 : UInt8), (73 : UInt8), (82 : UInt8), (77 : UInt8)].toArray⟩ ++ putWord l.length) ⟨[].toArray⟩ 0 k = k (tblRows n l).1 (tblRows n l).2 ∧ (tblRows n l).1.size = 8 + 4 * l.length ∧ (tblRows n l).2.size ≤ 208 * l.length := by
  unfold c_impl_PutTables_w_0
  have h1 := fold (fun f i (st : ByteArray × ByteArray) => l_impl_PutTables_w_0 N s n (tblBase n l.length) b l.length l k f st.1 st.2 i) l.length (fun i st => atD l i (fun x => tblStep (tblBase n l.length) st x) st)
    (fun i st => st.1.size = 8 + 4 * i ∧ st.2.size ≤ 208 * i) (fun st => k st.1 st.2) (fun f i st hi hs => by
      obtain ⟨s3, s4⟩ := st
      obtain ⟨hs1, hs2⟩ := hs
      dsimp only at hs1 hs2
      obtain ⟨x, hx1⟩ := nth_some hi
      have hm : x ∈ l := by rw [nth_eq] at hx1; exact List.mem_of_getElem? hx1
      have hok := hx x hm
      obtain ⟨q1, q2, q3, q4, q5⟩ := tblOk_facts hok
      have e1 : IntKind.wrap .i64 (((BitVec.ofInt 64 (IntKind.wrap .i64 (IntKind.wrap .i64 (8 + (x.fBody.size : Int)) * 65536)) ||| BitVec.ofInt 64 (IntKind.wrap .i64 (x.fRev * 256))).toNat : Nat) : Int) = ((x.fBody.size : Int) + 8) * 65536 + x.fRev * 256 := by
        rw [w64 (n := 8 + (x.fBody.size : Int)) (by omega) (by omega), w64 (n := (8 + (x.fBody.size : Int)) * 65536) (by omega) (by omega), w64 (n := x.fRev * 256) (by omega) (by omega),
          or_add (a := (8 + (x.fBody.size : Int)) * 65536) (b := x.fRev * 256) 16 (by omega) (by omega) (by omega) (by omega) (by omega)]
        omega
      have e3 : ∀ bs : Int, IntKind.wrap .i64 (((BitVec.ofInt 64 (((x.fBody.size : Int) + 8) * 65536 + x.fRev * 256) ||| BitVec.ofInt 64 (IntKind.wrap .i64 (((BitVec.ofInt 64 (IntKind.wrap .i64 (256 - bs % 256)) &&& BitVec.ofInt 64 255).toNat : Nat) : Int))).toNat : Nat) : Int) = ((x.fBody.size : Int) + 8) * 65536 + x.fRev * 256 + (-bs) % 256 := by
        intro bs
        rw [and255, w64 (n := 256 - bs % 256) (by omega) (by omega), or_add (a := ((x.fBody.size : Int) + 8) * 65536 + x.fRev * 256) (b := (256 - bs % 256) % 256) 8 (by omega) (by omega) (by omega) (by omega) (by omega)]
        omega
      have hsz : ∀ w, ((x.fName ++ putWord w) ++ x.fBody).size = 8 + x.fBody.size := fun w => by rw [ByteArray.size_append, ByteArray.size_append, putWord_size]; omega
      have hsz2 : ∀ w, (x.fName ++ putWord w).size = 8 := fun w => by rw [ByteArray.size_append, putWord_size]; omega
      simp only [l_impl_PutTables_w_0, s_impl_PutTables_w_0, dec_lt hi, dec_nn, Int.toNat_natCast, elemK_some hx1, wrap_next hi (by omega), Bool.and_true, cond_true, atD_some hx1, impl_PutWord_eq, putWord_size, ble_t (show s3.size + 4 ≤ 9223372036854775807 by omega), e1, ble_t (show x.fName.size + 4 ≤ 9223372036854775807 by omega), hsz2, ble_t (show 8 + x.fBody.size ≤ 9223372036854775807 by omega),
        impl_ybyteSum_eq N (show ((x.fName ++ putWord (((x.fBody.size : Int) + 8) * 65536 + x.fRev * 256)) ++ x.fBody).size ≤ 2 ^ 40 by rw [hsz]; omega) hN, e3, hsz, ble_t (show s4.size + (8 + x.fBody.size) ≤ 9223372036854775807 by omega)]
      refine ⟨rfl, ?_, ?_⟩
      · show (s3 ++ putWord _).size = _
        rw [ByteArray.size_append, putWord_size]; omega
      · show (s4 ++ tblText x).size ≤ _
        rw [ByteArray.size_append, tblText_size_ok hok]; omega) (fun f st hs => by
      simp only [l_impl_PutTables_w_0, s_impl_PutTables_w_0, dec_nlt, cond_false]) (s := (⟨[(70 : UInt8), (73 : UInt8), (82 : UInt8), (77 : UInt8)].toArray⟩ ++ putWord l.length, ⟨[].toArray⟩)) ⟨by rw [ByteArray.size_append, putWord_size]; rfl, by show (0 : Nat) ≤ _; omega⟩ (f := N) (by omega)
  rw [foldl_atD l (tblStep (tblBase n l.length))] at h1
  exact h1

def putTables (s : ByteArray) (n : Int) (l : List FirmTable) : ByteArray :=
  cond (memOk s && (!decide (n < 0) && (!(Int.tmod n 4 != 0) && (!decide ((l.length : Int) > 10) && !(l.any fun x => !tblOk x)))))
    (cond (fitsAt s.size n (((tblRows n l).1 ++ putWord (-(wordSum (tblRows n l).1))) ++ (tblRows n l).2).size) (splice s n.toNat (((tblRows n l).1 ++ putWord (-(wordSum (tblRows n l).1))) ++ (tblRows n l).2)) ⟨[].toArray⟩) ⟨[].toArray⟩

theorem containsFunc_table_eq {l : List FirmTable} {b : Bool} (hl : l.length ≤ 2 ^ 40) (hx : ∀ x ∈ l, x.fName.size ≤ 2 ^ 40) (hN : 2 ^ 40 < N) (k : Bool → Option R) : g_slices_ContainsFunc_FirmTable_Fimpl_PutTables_1_r N b l k = k (l.any fun x => !tblOk x) := by
  unfold g_slices_ContainsFunc_FirmTable_Fimpl_PutTables_1_r
  rw [indexFunc_table_eq N hl hx hN, fstAt_nonneg, any_atD]

theorem impl_PutTables_eq {s : ByteArray} {n : Int} {l : List FirmTable} {b : Bool} (hs : s.size ≤ 2 ^ 30) (hl : l.length ≤ 2 ^ 40) (hx : ∀ x ∈ l, x.fName.size ≤ 2 ^ 30) (hN : 2 ^ 40 < N) (k : ByteArray → Option R) : g_impl_PutTables_w N s n b l k = k (putTables s n l) := by
  unfold g_impl_PutTables_w putTables
  simp only [impl_ymemOk_eq, containsFunc_table_eq N hl (fun x hm => by have := hx x hm; omega) hN, cond_somes, oK_some_eq, Bool.cond_true_left]
  have hj : (!memOk s || (decide (n < 0) || (n.tmod 4 != 0 || (decide ((l.length : Int) > 10) || l.any fun x => !tblOk x)))) = !(memOk s && (!decide (n < 0) && (!(n.tmod 4 != 0) && (!decide ((l.length : Int) > 10) && !(l.any fun x => !tblOk x))))) := by
    cases memOk s <;> cases decide (n < 0) <;> cases (n.tmod 4 != 0) <;> cases decide ((l.length : Int) > 10) <;> cases (l.any fun x => !tblOk x) <;> rfl
  rw [hj]
  by_cases hg : (memOk s && (!decide (n < 0) && (!(n.tmod 4 != 0) && (!decide ((l.length : Int) > 10) && !(l.any fun x => !tblOk x))))) = true
  · rw [hg]
    simp only [Bool.and_eq_true, Bool.not_eq_true', decide_eq_false_iff_not] at hg
    obtain ⟨_, _, _, h10, hany⟩ := hg
    have hall : ∀ x ∈ l, tblOk x = true := by
      intro x hm
      have := List.any_eq_false.1 hany x hm
      simpa using this
    obtain ⟨a1, a2, a3⟩ := impl_PutTables_loop N (s := s) (n := n) (b := b) (l := l) (by omega) hall hN (fun s8 s9 =>
      (g_impl_ywordSum N s8 fun n6 =>
      (g_impl_PutWord N (IntKind.wrap .i64 ((0 : Int) - n6)) fun s10 =>
      (cond (Nat.ble ((ByteArray.size s8) + (ByteArray.size s10)) 9223372036854775807)
      (cond (Nat.ble ((ByteArray.size (s8 ++ s10)) + (ByteArray.size s9)) 9223372036854775807)
        (g_impl_yfits N (((ByteArray.size s) : Nat) : Int) n (((ByteArray.size ((s8 ++ s10) ++ s9)) : Nat) : Int) fun b4 =>
          (cond (!b4)
          (k (ByteArray.mk (List.toArray [])))
          (g_impl_ysplice N s n ((s8 ++ s10) ++ s9) fun s11 =>
            (k s11))))
        none)
      none))))
    rw [Bool.not_true, cond_false, cond_true, impl_PutWord_eq, putWord_size, show Nat.ble (4 + 4) 9223372036854775807 = true from rfl, cond_true]
    refine a1.trans ?_
    generalize tblRows n l = st at a2 a3 ⊢
    obtain ⟨hd, bd⟩ := st
    dsimp only at a2 a3 ⊢
    obtain ⟨_, w1, w2⟩ := spec_l21Words_eq N (s := hd) (by omega) hN (fun _ => (none : Option R))
    have ew : putWord (IntKind.wrap .i64 (0 - word (wordSum hd))) = putWord (-(wordSum hd)) := by
      apply putWord_congr
      rw [w64 (by unfold word; omega) (by unfold word; omega), word_neg]
    rw [impl_ywordSum_eq N (by omega) (by omega) hN, impl_PutWord_eq, ew, putWord_size, ble_t (by omega), cond_true, ble_t (by rw [ByteArray.size_append, putWord_size]; omega), cond_true, impl_yfits_eq]
    cases hf : fitsAt s.size n ((hd ++ putWord (-(wordSum hd))) ++ bd).size with
    | false => rfl
    | true =>
      simp only [Bool.not_true, cond_false, cond_true]
      rw [impl_ysplice_eq N (by omega) hf]
  · rw [Bool.not_eq_true] at hg
    rw [hg]; rfl

theorem spec_PutTables_loop {s : ByteArray} {n : Int} {l : List FirmTable} {b : Bool} (hl : l.length ≤ 10) (hx : ∀ x ∈ l, x.fName.size ≤ 2 ^ 30 ∧ x.fBody.size ≤ 2 ^ 30) (hN : 2 ^ 40 < N) (k0 : Option R) (k : ByteArray → ByteArray → Option R) :
    c_spec_PutTables_w_0 N s n b l (⟨[(70 : UInt8), (73 : UInt8), (82 : UInt8), (77 : UInt8)].toArray⟩ ++ putWord l.length) ⟨[].toArray⟩ 0 (fun _ _ => k0) k = cond (l.any fun x => !tblOk x) k0 (k (tblRows n l).1 (tblRows n l).2) := by
  unfold c_spec_PutTables_w_0
  have h1 := foldE (fun f i (st : ByteArray × ByteArray) => l_spec_PutTables_w_0 N s n b l (fun _ _ => k0) k f st.1 st.2 i) l.length (fun i => atD l i (fun x => !tblOk x) true) (fun i st => atD l i (fun x => tblStep (tblBase n l.length) st x) st)
    (fun i st => st.1.size = 8 + 4 * i ∧ st.2.size ≤ 208 * i) (fun st => k st.1 st.2) k0 (fun f i st hi hs => by
      obtain ⟨s3, s4⟩ := st
      obtain ⟨hs1, hs2⟩ := hs
      dsimp only at hs1 hs2
      obtain ⟨x, hx1⟩ := nth_some hi
      have hm : x ∈ l := by rw [nth_eq] at hx1; exact List.mem_of_getElem? hx1
      obtain ⟨q1, q2⟩ := hx x hm
      simp only [l_spec_PutTables_w_0, s_spec_PutTables_w_0, dec_lt hi, dec_nn, Int.toNat_natCast, elemK_some hx1, wrap_next hi (by omega), Bool.and_true, cond_true, atD_some hx1, spec_PutWord_eq, putWord_size, ble_t (show s3.size + 4 ≤ 9223372036854775807 by omega), spec_l21Table_eq N x q1 q2 hN]
      cases hok : tblOk x with
      | false => exact ⟨rfl, fun h => by cases h⟩
      | true =>
        have hz := tblText_size_ok hok
        obtain ⟨_, _, _, q4, _⟩ := tblOk_facts hok
        have hne : decide (tblText x = ⟨[].toArray⟩) = false := decide_eq_false (fun h => by
          have := congrArg ByteArray.size h
          rw [hz] at this
          have h0 : (⟨[].toArray⟩ : ByteArray).size = 0 := rfl
          omega)
        simp only [cond_true, hne, cond_false, ble_t (show s4.size + (tblText x).size ≤ 9223372036854775807 by omega), Bool.not_true]
        refine ⟨rfl, fun _ => ⟨?_, ?_⟩⟩
        · show (s3 ++ putWord _).size = _
          rw [ByteArray.size_append, putWord_size]; omega
        · show (s4 ++ tblText x).size ≤ _
          rw [ByteArray.size_append, hz]; omega) (fun f st hs => by
      simp only [l_spec_PutTables_w_0, s_spec_PutTables_w_0, dec_nlt, cond_false]) (s := (⟨[(70 : UInt8), (73 : UInt8), (82 : UInt8), (77 : UInt8)].toArray⟩ ++ putWord l.length, ⟨[].toArray⟩)) ⟨by rw [ByteArray.size_append, putWord_size]; rfl, by show (0 : Nat) ≤ _; omega⟩ (f := N) (by omega)
  rw [foldl_atD l (tblStep (tblBase n l.length)), any_atD] at h1
  exact h1.1


theorem spec_PutTables_eq {s : ByteArray} {n : Int} {l : List FirmTable} {b : Bool} (hs : s.size ≤ 2 ^ 30) (hx : ∀ x ∈ l, x.fName.size ≤ 2 ^ 30 ∧ x.fBody.size ≤ 2 ^ 30) (hN : 2 ^ 40 < N) (k : ByteArray → Option R) : g_spec_PutTables_w N s n b l k = k (putTables s n l) := by
  unfold g_spec_PutTables_w
  simp only [spec_MemFault_eq, cond_somes, oK_some_eq, Bool.cond_true_left]
  have hm : ((cond (memOk s) (0 : Int) 1) != 0) = !memOk s := by cases memOk s <;> rfl
  rw [hm]
  by_cases hg : (memOk s && (!decide (n < 0) && (!(n.tmod 4 != 0) && (!decide ((l.length : Int) > 10))))) = true
  · have hg' := hg
    simp only [Bool.and_eq_true, Bool.not_eq_true', decide_eq_false_iff_not] at hg
    obtain ⟨g1, g2, g3, h10⟩ := hg
    by_cases hn : n > (s.size : Int)
    · have hf : ∀ t, fitsAt s.size n t = false := fun t => by
        unfold fitsAt
        rw [decide_eq_false (show ¬ n ≤ (s.size : Int) by omega)]
        cases decide (n ≥ 0) <;> cases decide (t ≥ 0) <;> rfl
      rw [decide_eq_true hn]
      unfold putTables
      rw [hf, cond_false, cond_same]
      cases memOk s <;> cases decide (n < 0) <;> cases (n.tmod 4 != 0) <;> rfl
    · rw [decide_eq_false hn, g1, decide_eq_false g2, g3, decide_eq_false h10]
      have hp : putTables s n l = cond (l.any fun x => !tblOk x) ⟨[].toArray⟩ (cond (fitsAt s.size n (((tblRows n l).1 ++ putWord (-(wordSum (tblRows n l).1))) ++ (tblRows n l).2).size) (splice s n.toNat (((tblRows n l).1 ++ putWord (-(wordSum (tblRows n l).1))) ++ (tblRows n l).2)) ⟨[].toArray⟩) := by
        unfold putTables
        rw [g1, decide_eq_false g2, g3, decide_eq_false h10]
        cases (l.any fun x => !tblOk x) <;> rfl
      rw [hp, Bool.not_true, Bool.or_false, Bool.or_false, Bool.or_false, Bool.or_false, cond_false, spec_PutWord_eq, putWord_size, show Nat.ble (4 + 4) 9223372036854775807 = true from rfl, cond_true]
      refine (spec_PutTables_loop N (by omega) hx hN _ _).trans ?_
      cases hany : (l.any fun x => !tblOk x) with
      | true => rfl
      | false =>
        have hall : ∀ x ∈ l, tblOk x = true := by
          intro x hm
          have := List.any_eq_false.1 hany x hm
          simpa using this
        obtain ⟨_, a2, a3⟩ := impl_PutTables_loop N (s := s) (n := n) (b := b) (l := l) (by omega) hall hN (fun _ _ => (none : Option R))
        simp only [cond_false]
        generalize tblRows n l = st at a2 a3 ⊢
        obtain ⟨hd, bd⟩ := st
        dsimp only at a2 a3 ⊢
        obtain ⟨_, w1, w2⟩ := spec_l21Words_eq N (s := hd) (by omega) hN (fun _ => (none : Option R))
        have hsz : (hd ++ putWord (-(wordSum hd))).size = hd.size + 4 := by rw [ByteArray.size_append, putWord_size]
        have hsz3 : ((hd ++ putWord (-(wordSum hd))) ++ bd).size = hd.size + 4 + bd.size := by rw [ByteArray.size_append, hsz]
        rw [(spec_l21Words_eq N (s := hd) (by omega) hN _).1, spec_PutWord_eq, w64 (n := 0 - wordSum hd) (by omega) (by omega), show 0 - wordSum hd = -(wordSum hd) by omega, putWord_size, ble_t (by omega), cond_true, spec_l10In_eq, hsz, hsz3,
          w64 (n := ((hd.size + 4 : Nat) : Int) + (bd.size : Int)) (by omega) (by omega), show ((hd.size + 4 : Nat) : Int) + (bd.size : Int) = ((hd.size + 4 + bd.size : Nat) : Int) by omega]
        cases hf : fitsAt s.size n ((hd.size + 4 + bd.size : Nat) : Int) with
        | false => rfl
        | true =>
          obtain ⟨f1, f2, f3⟩ := fits_nat (by omega) hf
          obtain ⟨a, rfl⟩ := Int.eq_ofNat_of_zero_le f1
          have e1 : IntKind.wrap .i64 ((a : Int) + ((hd.size + 4 + bd.size : Nat) : Int)) = ((a + (hd.size + 4 + bd.size) : Nat) : Int) := by rw [w64 (by omega) (by omega)]; omega
          simp only [Bool.not_true, cond_false, cond_true, e1, dec_nn, Int.toNat_natCast, decide_eq_true (show ((a : Int) ≤ (s.size : Int)) by omega), decide_eq_true (show (((a + (hd.size + 4 + bd.size) : Nat) : Int) ≤ (s.size : Int)) by omega), Bool.and_true, Int.le_refl, decide_true]
          rw [ble_t (by rw [ByteArray.size_extract]; omega), cond_true, ble_t (by rw [ByteArray.size_append, ByteArray.size_extract, hsz]; omega), cond_true, ble_t (by rw [ByteArray.size_append, ByteArray.size_append, ByteArray.size_extract, ByteArray.size_extract, hsz]; omega), cond_true]
          unfold splice
          rw [hsz3, ByteArray.append_assoc (a := s.extract 0 a)]
  · rw [Bool.not_eq_true] at hg
    have hp : putTables s n l = ⟨[].toArray⟩ := by
      unfold putTables
      revert hg
      cases memOk s <;> cases decide (n < 0) <;> cases (n.tmod 4 != 0) <;> cases decide ((l.length : Int) > 10) <;> intro hg <;> first | rfl | cases hg
    rw [hp]
    revert hg
    cases memOk s <;> cases decide (n < 0) <;> cases (n.tmod 4 != 0) <;> cases decide ((l.length : Int) > 10) <;> cases decide (n > (s.size : Int)) <;> intro hg <;> first | rfl | cases hg

theorem law_PutTables {s : ByteArray} {n : Int} {l : List FirmTable} {b : Bool} (hl : l.length ≤ maxLen) (hr : ∀ x ∈ l, ∀ v ∈ rlFirmTable.cells x, svWf v) (hN : 2 ^ 40 < N) (k : Bool → Option R) : g_laws_FnExactPutTables_r N s n b l k = k true := by
  unfold g_laws_FnExactPutTables_r
  by_cases hs : (s.size : Int) > 1048576
  · rw [decide_eq_true hs]; rfl
  rw [decide_eq_false hs, cond_false]
  have hx0 : ∀ x ∈ l, x.fName.size ≤ 9223372036854775807 ∧ x.fBody.size ≤ 9223372036854775807 := by
    intro x hm
    have h1 := hr x hm (.str x.fName) (by simp [rlFirmTable, tlFirmTable])
    have h2 := hr x hm (.str x.fBody) (by simp [rlFirmTable, tlFirmTable])
    exact ⟨h1, h2⟩
  obtain ⟨v, hv, hv2⟩ := laws_szFirmTableS_eq N (l := l) (b := b) (n := 1048576) (by omega) (by omega) hl hx0 hN (R := R)
  rw [hv]
  rcases hv2 with h | ⟨h0, h1, h2⟩
  · rw [decide_eq_true h]; rfl
  · have hl2 : l.length ≤ 2 ^ 40 := by omega
    rw [decide_eq_false (by omega), cond_false]
    simp only [laws_toFirmTableS_r_eq N hl2 hN, spec_PutTables_eq N (show s.size ≤ 2 ^ 30 by omega) (fun x hm => by have := h2 x hm; omega) hN, impl_PutTables_eq N (show s.size ≤ 2 ^ 30 by omega) hl2 (fun x hm => by have := h2 x hm; omega) hN, laws_eqFirmTableS_ww_eq N hl2 hN, decide_true, Bool.not_true, cond_false]

end
end Go.Sa
