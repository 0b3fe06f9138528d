import Derived.Test.YtnopbegjbbbdhaaW10
set_option linter.all false
namespace Go.Sa
open Go Go.Eng
section
variable {R : Type} (N : Nat)
variable {R : Type}

@[simp] theorem impl_yin_eq (a lo hi : Int) (k : Bool → Option R) : g_impl_yin N a lo hi k = k (decide (a ≥ lo) && decide (a ≤ hi)) := by
  simp [g_impl_yin]

def word (n : Int) : Int := n % 4294967296

def putWord (n : Int) : ByteArray := toBytes [word n % 256, word n / 256 % 256, word n / 65536 % 256, word n / 16777216 % 256]

theorem putWord_size (n : Int) : (putWord n).size = 4 := toBytes_size _

theorem impl_PutWord_eq (n : Int) (k : ByteArray → Option R) : g_impl_PutWord N n k = k (putWord n) := by
  simp only [g_impl_PutWord, Go.Eng.wu8, wu32, fdiv_lit _ (show (0 : Int) ≤ 256 by omega), fdiv_lit _ (show (0 : Int) ≤ 65536 by omega), fdiv_lit _ (show (0 : Int) ≤ 16777216 by omega), seg_all]
  rfl

theorem spec_l01Mod_eq {n m : Int} (hm : 0 < m) (hm2 : m ≤ 2 ^ 62) (k : Int → Option R) : g_spec_l01Mod N n m k = k (n % m) := by
  unfold g_spec_l01Mod
  obtain ⟨h1, h2⟩ := tmod_bound (n := n) hm
  rw [show (m == 0) = false by rw [beq_dec]; exact decide_eq_false (by omega), ← tmod_add (n := n) hm]
  by_cases h : n.tmod m < 0
  · rw [decide_eq_true h, if_pos h, w64 (by omega) (by omega)]; rfl
  · rw [decide_eq_false h, if_neg h]; rfl

theorem spec_Word_eq (n : Int) (k : Int → Option R) : g_spec_Word N n k = k (word n) := by
  unfold g_spec_Word
  rw [spec_l01Mod_eq N (by omega) (by omega)]
  rfl

theorem spec_PutWord_eq (n : Int) (k : ByteArray → Option R) : g_spec_PutWord N n k = k (putWord n) := by
  simp only [g_spec_PutWord, spec_Word_eq, Go.Eng.wu8, fdiv_lit _ (show (0 : Int) ≤ 256 by omega), fdiv_lit _ (show (0 : Int) ≤ 65536 by omega), fdiv_lit _ (show (0 : Int) ≤ 16777216 by omega), seg_all]
  rfl


def byteSum (s : ByteArray) : Int := (List.range s.size).foldl (fun a i => a + bt s i) 0

theorem spec_l21Bytes_eq {s : ByteArray} (hs : s.size ≤ 2 ^ 40) (hN : 2 ^ 40 < N) (k : Int → Option R) : g_spec_l21Bytes N s k = k (byteSum s) ∧ 0 ≤ byteSum s ∧ byteSum s ≤ 255 * s.size := by
  unfold g_spec_l21Bytes c_spec_l21Bytes_0
  obtain ⟨h1, h2, h3⟩ := fold (fun f i a => l_spec_l21Bytes_0 N s (fun n2 => k n2) f a i) s.size (fun i a => a + bt s i) (fun i a => 0 ≤ a ∧ a ≤ 255 * (i : Int)) k (fun f i a hi ha => by
      obtain ⟨b1, b2⟩ := bt_bound s i
      simp only [l_spec_l21Bytes_0, s_spec_l21Bytes_0, dec_lt hi, dec_nn, Int.toNat_natCast, wrap_next hi (by omega), Bool.and_true, cond_true, w64 (show -9223372036854775808 ≤ bt s i by omega) (show bt s i < 9223372036854775808 by omega), w64 (show -9223372036854775808 ≤ a + bt s i by omega) (show a + bt s i < 9223372036854775808 by omega)]
      exact ⟨trivial, by omega, by omega⟩) (fun f a ha => by
      simp only [l_spec_l21Bytes_0, s_spec_l21Bytes_0, dec_nlt, cond_false]) (s := 0) ⟨by omega, by omega⟩ (f := N) (by omega)
  exact ⟨h1, h2, h3⟩

theorem impl_ybyteSum_eq {s : ByteArray} (hs : s.size ≤ 2 ^ 40) (hN : 2 ^ 40 < N) (k : Int → Option R) : g_impl_ybyteSum N s k = k (byteSum s % 256) := by
  unfold g_impl_ybyteSum c_impl_ybyteSum_0
  obtain ⟨h1, h2, h3⟩ := fold (fun f i a => l_impl_ybyteSum_0 N s s.size (fun n3 => k (IntKind.wrap .i64 (((BitVec.ofInt 64 n3 &&& BitVec.ofInt 64 255).toNat : Nat) : Int))) f a i) s.size (fun i a => a + bt s i) (fun i a => 0 ≤ a ∧ a ≤ 255 * (i : Int)) (fun n3 => k (IntKind.wrap .i64 (((BitVec.ofInt 64 n3 &&& BitVec.ofInt 64 255).toNat : Nat) : Int))) (fun f i a hi ha => by
      obtain ⟨b1, b2⟩ := bt_bound s i
      simp only [l_impl_ybyteSum_0, s_impl_ybyteSum_0, dec_lt hi, dec_nn, Int.toNat_natCast, wrap_next hi (by omega), Bool.and_true, cond_true, w64 (show -9223372036854775808 ≤ bt s i by omega) (show bt s i < 9223372036854775808 by omega), w64 (show -9223372036854775808 ≤ a + bt s i by omega) (show a + bt s i < 9223372036854775808 by omega)]
      exact ⟨trivial, by omega, by omega⟩) (fun f a ha => by
      simp only [l_impl_ybyteSum_0, s_impl_ybyteSum_0, dec_nlt, cond_false]) (s := 0) ⟨by omega, by omega⟩ (f := N) (by omega)
  refine h1.trans ?_
  rw [and255]
  rfl

def wordAt (s : ByteArray) (i : Nat) : Int := bt s i + bt s (i + 1) * 256 + bt s (i + 2) * 65536 + bt s (i + 3) * 16777216

theorem wordAt_bound (s : ByteArray) (i : Nat) : 0 ≤ wordAt s i ∧ wordAt s i < 4294967296 := by
  have h0 := bt_bound s i
  have h1 := bt_bound s (i + 1)
  have h2 := bt_bound s (i + 2)
  have h3 := bt_bound s (i + 3)
  unfold wordAt
  omega

theorem spec_l01Word_eq {s : ByteArray} {i : Nat} (h : i + 4 ≤ s.size) (hs : s.size ≤ 2 ^ 60) (k : Int → Option R) : g_spec_l01Word N s (i : Int) k = k (wordAt s i) := by
  have h0 := bt_bound s i
  have h1 := bt_bound s (i + 1)
  have h2 := bt_bound s (i + 2)
  have h3 := bt_bound s (i + 3)
  have e1 : IntKind.wrap .i64 ((i : Int) + 1) = ((i + 1 : Nat) : Int) := by rw [w64 (by omega) (by omega)]; omega
  have e2 : IntKind.wrap .i64 ((i : Int) + 2) = ((i + 2 : Nat) : Int) := by rw [w64 (by omega) (by omega)]; omega
  have e3 : IntKind.wrap .i64 ((i : Int) + 3) = ((i + 3 : Nat) : Int) := by rw [w64 (by omega) (by omega)]; omega
  simp only [g_spec_l01Word, e1, e2, e3, dec_nn, dec_lt (show i < s.size by omega), dec_lt (show i + 1 < s.size by omega), dec_lt (show i + 2 < s.size by omega), dec_lt (show i + 3 < s.size by omega), Bool.and_true, cond_true, Int.toNat_natCast]
  rw [w64 (n := bt s i) (by omega) (by omega), w64 (n := bt s (i + 1)) (by omega) (by omega), w64 (n := bt s (i + 2)) (by omega) (by omega), w64 (n := bt s (i + 3)) (by omega) (by omega), w64 (n := bt s (i + 1) * 256) (by omega) (by omega), w64 (n := bt s (i + 2) * 65536) (by omega) (by omega), w64 (n := bt s (i + 3) * 16777216) (by omega) (by omega), w64 (n := bt s i + bt s (i + 1) * 256) (by omega) (by omega), w64 (n := bt s i + bt s (i + 1) * 256 + bt s (i + 2) * 65536) (by omega) (by omega), w64 (n := bt s i + bt s (i + 1) * 256 + bt s (i + 2) * 65536 + bt s (i + 3) * 16777216) (by omega) (by omega)]
  rfl

theorem or_word (a b c d : Int) (ha : 0 ≤ a ∧ a ≤ 255) (hb : 0 ≤ b ∧ b ≤ 255) (hc : 0 ≤ c ∧ c ≤ 255) (hd : 0 ≤ d ∧ d ≤ 255) :
    IntKind.wrap .i64 (((BitVec.ofInt 64 (IntKind.wrap .i64 (((BitVec.ofInt 64 (IntKind.wrap .i64 (((BitVec.ofInt 64 a ||| BitVec.ofInt 64 (b * 256)).toNat : Nat) : Int)) ||| BitVec.ofInt 64 (c * 65536)).toNat : Nat) : Int)) ||| BitVec.ofInt 64 (d * 16777216)).toNat : Nat) : Int) = a + b * 256 + c * 65536 + d * 16777216 := by
  have com : ∀ x y : Int, (BitVec.ofInt 64 x ||| BitVec.ofInt 64 y) = (BitVec.ofInt 64 y ||| BitVec.ofInt 64 x) := fun x y => BitVec.or_comm _ _
  have h1 := or_add (a := b * 256) (b := a) 8 (by omega) (by omega) (by omega) (by omega) (by omega)
  have h2 := or_add (a := c * 65536) (b := b * 256 + a) 16 (by omega) (by omega) (by omega) (by omega) (by omega)
  have h3 := or_add (a := d * 16777216) (b := c * 65536 + (b * 256 + a)) 24 (by omega) (by omega) (by omega) (by omega) (by omega)
  rw [com a, h1, com (b * 256 + a), h2, com (c * 65536 + (b * 256 + a)), h3]
  omega

theorem impl_ywordAt_eq {s : ByteArray} {i : Nat} (h : i + 4 ≤ s.size) (hs : s.size ≤ 2 ^ 60) (k : Int → Option R) : g_impl_ywordAt N s (i : Int) k = k (wordAt s i) := by
  have h0 := bt_bound s i
  have h1 := bt_bound s (i + 1)
  have h2 := bt_bound s (i + 2)
  have h3 := bt_bound s (i + 3)
  have e1 : IntKind.wrap .i64 ((i : Int) + 1) = ((i + 1 : Nat) : Int) := by rw [w64 (by omega) (by omega)]; omega
  have e2 : IntKind.wrap .i64 ((i : Int) + 2) = ((i + 2 : Nat) : Int) := by rw [w64 (by omega) (by omega)]; omega
  have e3 : IntKind.wrap .i64 ((i : Int) + 3) = ((i + 3 : Nat) : Int) := by rw [w64 (by omega) (by omega)]; omega
  simp only [g_impl_ywordAt, e1, e2, e3, dec_nn, dec_lt (show i < s.size by omega), dec_lt (show i + 1 < s.size by omega), dec_lt (show i + 2 < s.size by omega), dec_lt (show i + 3 < s.size by omega), Bool.and_true, cond_true, Int.toNat_natCast]
  rw [w64 (n := bt s i) (by omega) (by omega), w64 (n := bt s (i + 1)) (by omega) (by omega), w64 (n := bt s (i + 2)) (by omega) (by omega), w64 (n := bt s (i + 3)) (by omega) (by omega), w64 (n := bt s (i + 1) * 256) (by omega) (by omega), w64 (n := bt s (i + 2) * 65536) (by omega) (by omega), w64 (n := bt s (i + 3) * 16777216) (by omega) (by omega), or_word _ _ _ _ h0 h1 h2 h3]
  rfl

def wordSum (s : ByteArray) : Int := (List.range (s.size / 4)).foldl (fun a j => a + wordAt s (4 * j)) 0

theorem spec_l21Words_eq {s : ByteArray} (hs : s.size ≤ 2 ^ 30) (hN : 2 ^ 40 < N) (k : Int → Option R) : g_spec_l21Words N s k = k (wordSum s) ∧ 0 ≤ wordSum s ∧ wordSum s ≤ 4294967296 * (s.size / 4 : Nat) := by
  unfold g_spec_l21Words c_spec_l21Words_0
  obtain ⟨h1, h2, h3⟩ := fold (fun f i a => l_spec_l21Words_0 N s (fun n3 => k n3) f a (4 * i)) (s.size / 4) (fun j a => a + wordAt s (4 * j)) (fun i a => 0 ≤ a ∧ a ≤ 4294967296 * (i : Int)) k (fun f i a hi ha => by
      obtain ⟨b1, b2⟩ := wordAt_bound s (4 * i)
      have e4 : (4 * (i : Int)) = ((4 * i : Nat) : Int) := by omega
      have e5 : IntKind.wrap .i64 (((4 * i : Nat) : Int) + 4) = 4 * ((i + 1 : Nat) : Int) := by rw [w64 (by omega) (by omega)]; omega
      simp only [e4, l_spec_l21Words_0, s_spec_l21Words_0, e5, decide_eq_true (show 4 * ((i + 1 : Nat) : Int) ≤ (s.size : Int) by omega), spec_l01Word_eq N (show 4 * i + 4 ≤ s.size by omega) (by omega), cond_true, w64 (show -9223372036854775808 ≤ a + wordAt s (4 * i) by omega) (show a + wordAt s (4 * i) < 9223372036854775808 by omega)]
      exact ⟨trivial, by omega, by omega⟩) (fun f a ha => by
      have e4 : (4 * ((s.size / 4 : Nat) : Int)) = ((4 * (s.size / 4) : Nat) : Int) := by omega
      simp only [e4, l_spec_l21Words_0, s_spec_l21Words_0, w64 (show -9223372036854775808 ≤ ((4 * (s.size / 4) : Nat) : Int) + 4 by omega) (show ((4 * (s.size / 4) : Nat) : Int) + 4 < 9223372036854775808 by omega), decide_eq_false (show ¬ ((4 * (s.size / 4) : Nat) : Int) + 4 ≤ (s.size : Int) by omega), cond_false]) (s := 0) ⟨by omega, by omega⟩ (f := N) (by omega)
  exact ⟨h1, h2, h3⟩

theorem impl_Word_eq (n : Int) (k : Int → Option R) : g_impl_Word N n k = k (word n) := by
  unfold g_impl_Word
  rw [wu32, w64 (by omega) (by omega)]
  rfl

theorem impl_ywordSum_eq {s : ByteArray} (hs : s.size ≤ 2 ^ 30) (h4 : s.size % 4 = 0) (hN : 2 ^ 40 < N) (k : Int → Option R) : g_impl_ywordSum N s k = k (word (wordSum s)) := by
  unfold g_impl_ywordSum c_impl_ywordSum_0
  obtain ⟨h1, h2, h3⟩ := fold (fun f i a => l_impl_ywordSum_0 N s (fun n3 => g_impl_Word N n3 fun n4 => k n4) f a (4 * i)) (s.size / 4) (fun j a => a + wordAt s (4 * j)) (fun i a => 0 ≤ a ∧ a ≤ 4294967296 * (i : Int)) (fun n3 => g_impl_Word N n3 fun n4 => k n4) (fun f i a hi ha => by
      obtain ⟨b1, b2⟩ := wordAt_bound s (4 * i)
      have e4 : (4 * (i : Int)) = ((4 * i : Nat) : Int) := by omega
      have e5 : IntKind.wrap .i64 (((4 * i : Nat) : Int) + 4) = 4 * ((i + 1 : Nat) : Int) := by rw [w64 (by omega) (by omega)]; omega
      simp only [e4, l_impl_ywordSum_0, s_impl_ywordSum_0, e5, dec_lt (show 4 * i < s.size by omega), impl_ywordAt_eq N (show 4 * i + 4 ≤ s.size by omega) (by omega), cond_true, w64 (show -9223372036854775808 ≤ a + wordAt s (4 * i) by omega) (show a + wordAt s (4 * i) < 9223372036854775808 by omega)]
      exact ⟨trivial, by omega, by omega⟩) (fun f a ha => by
      have e4 : (4 * ((s.size / 4 : Nat) : Int)) = (s.size : Int) := by omega
      simp only [e4, l_impl_ywordSum_0, s_impl_ywordSum_0, dec_nlt, cond_false]) (s := 0) ⟨by omega, by omega⟩ (f := N) (by omega)
  refine h1.trans ?_
  rw [impl_Word_eq]
  rfl


def nameOk (s : ByteArray) : Bool := (s.size == 4) && !((List.range s.size).any fun i => decide (bt s i < 65) || decide (bt s i > 90))

theorem impl_ytableName_eq {s : ByteArray} (hs : s.size ≤ 2 ^ 40) (hN : 2 ^ 40 < N) (k : Bool → Option R) : g_impl_ytableName N s k = k (nameOk s) := by
  unfold g_impl_ytableName c_impl_ytableName_0 nameOk
  have hg : ((s.size : Int) == 4) = (s.size == 4) := by rw [Bool.eq_iff_iff]; simp; omega
  rw [hg, srch (l_impl_ytableName_0 N s s.size (k false) (k (s.size == 4))) s.size (fun i => decide (bt s i < 65) || decide (bt s i > 90)) (k false) (k (s.size == 4)) (fun f i hi => by
      simp only [l_impl_ytableName_0, s_impl_ytableName_0, dec_lt hi, dec_nn, Int.toNat_natCast, wrap_next hi (by omega), Bool.and_true, cond_true, cond_somes, oK_some_eq, Bool.cond_true_left]) (fun f => by
      simp only [l_impl_ytableName_0, s_impl_ytableName_0, dec_nlt, cond_false]) (by omega)]
  cases (List.range s.size).any fun i => decide (bt s i < 65) || decide (bt s i > 90)
  · simp
  · simp

theorem spec_l21Name_eq {s : ByteArray} (hN : 2 ^ 40 < N) (k : Bool → Option R) : g_spec_l21Name N s k = k (nameOk s) := by
  unfold g_spec_l21Name c_spec_l21Name_0 nameOk
  have hg : ((s.size : Int) != 4) = !(s.size == 4) := by rw [Bool.eq_iff_iff]; simp; omega
  rw [hg]
  by_cases h : s.size = 4
  · have e4 : (4 : Int) = ((4 : Nat) : Int) := rfl
    rw [h, srch (l_spec_l21Name_0 N s (k false) (k true)) 4 (fun i => decide (bt s i < 65) || decide (bt s i > 90)) (k false) (k true) (fun f i hi => by
      simp only [l_spec_l21Name_0, s_spec_l21Name_0, h, e4, dec_lt hi, dec_nn, Int.toNat_natCast, wrap_next hi (by omega), Bool.and_true, cond_true, cond_somes, oK_some_eq, Bool.cond_true_left]) (fun f => by
      simp only [l_spec_l21Name_0, s_spec_l21Name_0, e4, dec_nlt, cond_false]) (by omega)]
    cases (List.range 4).any fun i => decide (bt s i < 65) || decide (bt s i > 90) <;> rfl
  · rw [show (s.size == 4) = false by simpa using h]; rfl

def tblOk (x : FirmTable) : Bool := nameOk x.fName && (decide (x.fRev ≥ 0) && decide (x.fRev ≤ 255) && (decide (x.fBody.size ≤ 200) && x.fBody.size % 4 == 0))

theorem tmod4 (n : Nat) : (Int.tmod (n : Int) 4 == 0) = (n % 4 == 0) := by
  rw [Int.tmod_eq_emod_of_nonneg (by omega)]
  rw [Bool.eq_iff_iff]; simp; omega

theorem impl_PutTables_1_eq (x : FirmTable) (hx : x.fName.size ≤ 2 ^ 40) (hN : 2 ^ 40 < N) (k : Bool → Option R) : g_impl_PutTables_1 N x.fName x.fRev x.fBody k = k (!tblOk x) := by
  unfold g_impl_PutTables_1 g_impl_ytableOk
  have hg : decide ((x.fBody.size : Int) ≤ 200) = decide (x.fBody.size ≤ 200) := decide_eq_decide.2 (by omega)
  simp only [impl_ytableName_eq N hx hN, impl_yin_eq, hg, tmod4, cond_somes, oK_some_eq]
  refine congrArg k ?_
  unfold tblOk
  cases nameOk x.fName <;> cases (decide (x.fRev ≥ 0) && decide (x.fRev ≤ 255)) <;> cases decide (x.fBody.size ≤ 200) <;> rfl

theorem indexFunc_table_eq {l : List FirmTable} {b : Bool} (hl : l.length ≤ 2 ^ 40) (hx : ∀ x ∈ l, x.fName.size ≤ 2 ^ 40) (hN : 2 ^ 40 < N) (k : Int → Option R) : g_slices_IndexFunc_FirmTable_Fimpl_PutTables_1_r N b l k = k (fstAt l.length (fun i => atD l i (fun x => !tblOk x) true)) := by
  unfold g_slices_IndexFunc_FirmTable_Fimpl_PutTables_1_r c_slices_IndexFunc_FirmTable_Fimpl_PutTables_1_r_0
  rw [srchI (l_slices_IndexFunc_FirmTable_Fimpl_PutTables_1_r_0 N b l.length l (fun n3 => k n3) (k (-1))) l.length (fun i => atD l i (fun x => !tblOk x) true) (fun n3 => k n3) (k (-1)) (fun f i hi => ?_) (fun f => ?_) (by omega)]
  · unfold fstAt
    split <;> rfl
  · obtain ⟨x, hx1⟩ := nth_some hi
    have hm : x ∈ l := by rw [nth_eq] at hx1; exact List.mem_of_getElem? hx1
    simp only [l_slices_IndexFunc_FirmTable_Fimpl_PutTables_1_r_0, s_slices_IndexFunc_FirmTable_Fimpl_PutTables_1_r_0, dec_lt hi, dec_nn, Int.toNat_natCast, elemK_some hx1, wrap_next hi (by omega), Bool.and_true, cond_true, atD_some hx1, impl_PutTables_1_eq N x (hx x hm) hN]
  · simp only [l_slices_IndexFunc_FirmTable_Fimpl_PutTables_1_r_0, s_slices_IndexFunc_FirmTable_Fimpl_PutTables_1_r_0, dec_nlt, cond_false]

/-- A table as it stands in memory. -/
def tblText (x : FirmTable) : ByteArray :=
  (x.fName ++ putWord ((x.fBody.size + 8) * 65536 + x.fRev * 256 + (-(byteSum (x.fName ++ putWord ((x.fBody.size + 8) * 65536 + x.fRev * 256) ++ x.fBody))) % 256)) ++ x.fBody

theorem tblText_size (x : FirmTable) : (tblText x).size = x.fName.size + 4 + x.fBody.size := by
  unfold tblText
  rw [ByteArray.size_append, ByteArray.size_append, putWord_size]

theorem spec_l21Table_eq (x : FirmTable) (h1 : x.fName.size ≤ 2 ^ 30) (h2 : x.fBody.size ≤ 2 ^ 30) (hN : 2 ^ 40 < N) (k : ByteArray → Option R) : g_spec_l21Table N x.fName x.fRev x.fBody k = k (cond (tblOk x) (tblText x) ⟨[].toArray⟩) := by
  unfold g_spec_l21Table
  have hg : decide ((x.fBody.size : Int) > 200) = !decide (x.fBody.size ≤ 200) := by rw [Bool.eq_iff_iff]; simp; omega
  have hb : (Int.tmod (x.fBody.size : Int) 4 != 0) = !(x.fBody.size % 4 == 0) := by rw [← tmod4]; rfl
  have hq : (!nameOk x.fName || (decide (x.fRev < 0) || (decide (x.fRev > 255) || (!decide (x.fBody.size ≤ 200) || !(x.fBody.size % 4 == 0))))) = !tblOk x := by
    unfold tblOk
    have e1 : decide (x.fRev < 0) = !decide (x.fRev ≥ 0) := by rw [Bool.eq_iff_iff]; simp
    have e2 : decide (x.fRev > 255) = !decide (x.fRev ≤ 255) := by rw [Bool.eq_iff_iff]; simp
    rw [e1, e2]
    cases nameOk x.fName <;> cases decide (x.fRev ≥ 0) <;> cases decide (x.fRev ≤ 255) <;> cases decide (x.fBody.size ≤ 200) <;> rfl
  simp only [spec_l21Name_eq N hN, hg, hb, cond_somes, oK_some_eq, Bool.cond_true_left, hq]
  by_cases h : tblOk x = true
  · rw [h]
    simp only [Bool.not_true, cond_false, cond_true]
    have hr : (0 ≤ x.fRev ∧ x.fRev ≤ 255) ∧ x.fBody.size ≤ 200 := by
      unfold tblOk at h
      simp only [Bool.and_eq_true, decide_eq_true_eq] at h
      exact ⟨⟨h.2.1.1, h.2.1.2⟩, h.2.2.1⟩
    have ew : IntKind.wrap .i64 (IntKind.wrap .i64 (IntKind.wrap .i64 ((x.fBody.size : Int) + 8) * 65536) + IntKind.wrap .i64 (x.fRev * 256)) = (x.fBody.size + 8) * 65536 + x.fRev * 256 := by
      rw [w64 (n := (x.fBody.size : Int) + 8) (by omega) (by omega), w64 (n := ((x.fBody.size : Int) + 8) * 65536) (by omega) (by omega), w64 (n := x.fRev * 256) (by omega) (by omega), w64 (by omega) (by omega)]
    have hsz : ∀ w, ((x.fName ++ putWord w) ++ x.fBody).size = x.fName.size + 4 + x.fBody.size := fun w => by rw [ByteArray.size_append, ByteArray.size_append, putWord_size]
    have hsz2 : ∀ w, (x.fName ++ putWord w).size = x.fName.size + 4 := fun w => by rw [ByteArray.size_append, putWord_size]
    obtain ⟨hb1, hb2, hb3⟩ := spec_l21Bytes_eq N (s := x.fName ++ putWord ((x.fBody.size + 8) * 65536 + x.fRev * 256) ++ x.fBody) (by rw [hsz]; omega) hN (fun _ => (none : Option R))
    rw [hsz] at hb3
    simp only [ew, spec_PutWord_eq, putWord_size, hsz2, ble_t (show x.fName.size + 4 ≤ 9223372036854775807 by omega), ble_t (show x.fName.size + 4 + x.fBody.size ≤ 9223372036854775807 by omega), cond_true,
      fun k => (spec_l21Bytes_eq N (s := x.fName ++ putWord ((x.fBody.size + 8) * 65536 + x.fRev * 256) ++ x.fBody) (by rw [hsz]; omega) hN (R := R) k).1, spec_l01Mod_eq N (show (0 : Int) < 256 by omega) (by omega)]
    have en : IntKind.wrap .i64 (0 - byteSum (x.fName ++ putWord ((x.fBody.size + 8) * 65536 + x.fRev * 256) ++ x.fBody)) = -byteSum (x.fName ++ putWord ((x.fBody.size + 8) * 65536 + x.fRev * 256) ++ x.fBody) := by
      rw [w64 (by omega) (by omega)]; omega
    rw [en, w64 (by omega) (by omega)]
    rfl
  · rw [Bool.not_eq_true] at h
    rw [h]; rfl


def memOk (s : ByteArray) : Bool := decide ((s.size : Int) ≥ 256) && (decide ((s.size : Int) ≤ 65536) && (Int.tmod (s.size : Int) 256 == 0))

theorem impl_ymemOk_eq (s : ByteArray) (k : Bool → Option R) : g_impl_ymemOk N s k = k (memOk s) := by
  unfold g_impl_ymemOk memOk
  cases decide ((s.size : Int) ≥ 256) <;> cases decide ((s.size : Int) ≤ 65536) <;> rfl

theorem spec_MemFault_eq (s : ByteArray) (k : Int → Option R) : g_spec_MemFault N s k = k (cond (memOk s) 0 1) := by
  have e : ((s.size : Int) == 0 || (Int.tmod (s.size : Int) 256 != 0 || decide ((s.size : Int) > 65536))) = !memOk s := by
    unfold memOk
    rw [Int.tmod_eq_emod_of_nonneg (by omega), Bool.eq_iff_iff]
    have h0 : (0 : Int) ≤ (s.size : Int) := by omega
    generalize (s.size : Int) = m at h0 ⊢
    simp
    omega
  unfold g_spec_MemFault
  simp only [cond_somes, oK_some_eq, Bool.cond_true_left, e]
  cases memOk s <;> rfl

def fitsAt (m n t : Int) : Bool := decide (n ≥ 0) && (decide (t ≥ 0) && (decide (n ≤ m) && decide (t ≤ IntKind.wrap .i64 (m - n))))

theorem impl_yfits_eq (m n t : Int) (k : Bool → Option R) : g_impl_yfits N m n t k = k (fitsAt m n t) := by
  unfold g_impl_yfits fitsAt
  cases decide (n ≥ 0) <;> cases decide (t ≥ 0) <;> cases decide (n ≤ m) <;> rfl

theorem spec_l10In_eq (s : ByteArray) (n t : Int) (k : Bool → Option R) : g_spec_l10In N s n t k = k (fitsAt s.size n t) := by
  unfold g_spec_l10In fitsAt
  cases decide (n ≥ 0) <;> cases decide (t ≥ 0) <;> cases decide (n ≤ (s.size : Int)) <;> rfl

def splice (s : ByteArray) (a : Nat) (t : ByteArray) : ByteArray := (s.extract 0 a ++ t) ++ s.extract (a + t.size) s.size

theorem fits_nat {m : Nat} {n t : Int} (hm : m ≤ 2 ^ 60) (h : fitsAt m n t = true) : 0 ≤ n ∧ 0 ≤ t ∧ n + t ≤ m := by
  unfold fitsAt at h
  simp only [Bool.and_eq_true, decide_eq_true_eq] at h
  obtain ⟨h1, h2, h3, h4⟩ := h
  rw [w64 (by omega) (by omega)] at h4
  omega

theorem impl_ysplice_eq {s t : ByteArray} {n : Int} (hs : s.size ≤ 2 ^ 60) (h : fitsAt s.size n t.size = true) (k : ByteArray → Option R) : g_impl_ysplice N s n t k = k (splice s n.toNat t) := by
  obtain ⟨h1, h2, h3⟩ := fits_nat hs h
  obtain ⟨a, rfl⟩ := Int.eq_ofNat_of_zero_le h1
  unfold g_impl_ysplice splice
  have e1 : IntKind.wrap .i64 ((a : Int) + (t.size : Int)) = ((a + t.size : Nat) : Int) := by rw [w64 (by omega) (by omega)]; omega
  simp only [e1, dec_nn, Int.toNat_natCast, decide_eq_true (show ((a : Int) ≤ (s.size : Int)) by omega), decide_eq_true (show (((a + t.size : Nat) : Int) ≤ (s.size : Int)) by omega), Bool.and_true, cond_true, Int.le_refl, decide_true]
  rw [ble_t (by rw [ByteArray.size_extract]; omega), cond_true, ble_t (by rw [ByteArray.size_append, ByteArray.size_extract, ByteArray.size_extract]; omega), cond_true]


theorem ofBytes_length (s : ByteArray) : (ofBytes s).length = s.size := by
  unfold ofBytes
  rw [List.length_map, Array.length_toList]
  rfl

theorem nth_ofBytes {s : ByteArray} {i : Nat} (h : i < s.size) : nth (ofBytes s) i = some (bt s i) := by
  have h' : i < s.data.toList.length := by rw [Array.length_toList]; exact h
  unfold ofBytes bt
  rw [nth_eq, List.getElem?_map, List.getElem?_eq_getElem h', List.getD_eq_getElem?_getD, List.getElem?_eq_getElem h']
  rfl

theorem ofBytes_append (s t : ByteArray) : ofBytes (s ++ t) = ofBytes s ++ ofBytes t := by
  obtain ⟨⟨a⟩⟩ := s
  obtain ⟨⟨b⟩⟩ := t
  have e : (⟨⟨a⟩⟩ ++ ⟨⟨b⟩⟩ : ByteArray).data = (⟨a⟩ ++ ⟨b⟩ : Array UInt8) := ByteArray.data_append
  unfold ofBytes
  rw [e]
  simp

theorem ofBytes_toBytes {l : List Int} (h : ∀ x ∈ l, 0 ≤ x ∧ x < 256) : ofBytes (toBytes l) = l := by
  unfold ofBytes toBytes
  simp only [List.map_map]
  rw [List.map_congr_left (g := id) (fun x hx => ?_), List.map_id]
  have := h x hx
  simp
  omega

theorem ofBytes_putWord (v : Int) : ofBytes (putWord v) = [v % 256, v / 256 % 256, v / 65536 % 256, v / 16777216 % 256] := by
  unfold putWord
  rw [ofBytes_toBytes (by intro x hx; simp only [List.mem_cons, List.not_mem_nil, or_false] at hx; omega)]
  unfold word
  simp only [List.cons.injEq, and_true]
  omega

theorem rng3 {a b c : Nat} (h1 : a ≤ b) (h2 : b ≤ c) : ((decide ((0 : Int) ≤ (a : Int)) && decide ((a : Int) ≤ (b : Int))) && decide ((b : Int) ≤ (c : Int))) = true := by
  rw [decide_eq_true (show (0 : Int) ≤ (a : Int) by omega), decide_eq_true (show (a : Int) ≤ (b : Int) by omega), decide_eq_true (show (b : Int) ≤ (c : Int) by omega)]; rfl

theorem bt_extract {s : ByteArray} {a b i : Nat} (h : a + i < b) : bt (s.extract a b) i = bt s (a + i) := by
  unfold bt
  rw [ByteArray.data_extract, Array.toList_extract, List.extract_eq_drop_take, List.getD_eq_getElem?_getD, List.getD_eq_getElem?_getD, List.getElem?_take_of_lt (by omega), List.getElem?_drop]

theorem bt_append_left {s t : ByteArray} {i : Nat} (h : i < s.size) : bt (s ++ t) i = bt s i := by
  have h' : i < s.data.toList.length := by rw [Array.length_toList]; exact h
  unfold bt
  rw [ByteArray.data_append, Array.toList_append, List.getD_eq_getElem?_getD, List.getD_eq_getElem?_getD, List.getElem?_append_left h']

theorem bt_append_right {s t : ByteArray} (i : Nat) : bt (s ++ t) (s.size + i) = bt t i := by
  have h' : s.size = s.data.toList.length := by rw [Array.length_toList]; rfl
  unfold bt
  rw [ByteArray.data_append, Array.toList_append, List.getD_eq_getElem?_getD, List.getD_eq_getElem?_getD, List.getElem?_append_right (by omega), h', Nat.add_sub_cancel_left]

theorem bytes_ext {s t : ByteArray} (h : s.size = t.size) (hb : ∀ i, i < s.size → bt s i = bt t i) : s = t := by
  have hs : s.size = s.data.toList.length := by rw [Array.length_toList]; rfl
  have ht : t.size = t.data.toList.length := by rw [Array.length_toList]; rfl
  have : s.data.toList = t.data.toList := by
    apply List.ext_getElem (by omega)
    intro i h1 h2
    have := hb i (by omega)
    unfold bt at this
    rw [List.getD_eq_getElem?_getD, List.getD_eq_getElem?_getD, List.getElem?_eq_getElem h1, List.getElem?_eq_getElem h2] at this
    simp only [Option.getD_some] at this
    exact UInt8.toNat_inj.1 (by omega)
  apply ByteArray.ext
  exact Array.ext' this

theorem extract_append_left {s t : ByteArray} {n : Nat} (h : n = s.size) : (s ++ t).extract 0 n = s := by
  subst h
  refine bytes_ext (by rw [ByteArray.size_extract, ByteArray.size_append]; omega) fun i hi => ?_
  rw [ByteArray.size_extract, ByteArray.size_append] at hi
  rw [bt_extract (by omega), Nat.zero_add, bt_append_left (by omega)]

theorem ybig_eq {t : ByteArray} (hN : 2 ^ 40 < N) (k : Bool → Option R) : g_impl_ybig_w N false [t] k = k (decide ((t.size : Int) > 65536)) := by
  obtain ⟨M, rfl⟩ : ∃ M, N = M + 2 := ⟨N - 2, by omega⟩
  unfold g_impl_ybig_w c_impl_ybig_w_0
  have hx : nth [t] 0 = some t := rfl
  show cond (decide ((t.size : Int) > 65536)) (k true) (k false) = _
  cases decide ((t.size : Int) > 65536) <;> rfl

theorem foldl_cong {S T : Type} {f g : S → T → S} : ∀ (l : List T) (s : S), (∀ s x, x ∈ l → f s x = g s x) → l.foldl f s = l.foldl g s
  | [], _, _ => rfl
  | x :: l, s, h => by
    rw [List.foldl_cons, List.foldl_cons, h s x (List.mem_cons_self ..)]
    exact foldl_cong l _ fun s y hy => h s y (List.mem_cons_of_mem _ hy)

/-- A fold over a list, each place going on with another state. -/
theorem foldL {T S : Type} (lp : Nat → Int → S → Option R) (l : List T) (g : S → T → S) (I : Nat → S → Prop) (k : S → Option R)
    (h : ∀ f i s x, i < l.length → nth l i = some x → I i s → lp (f + 1) (i : Int) s = lp f ((i + 1 : Nat) : Int) (g s x) ∧ I (i + 1) (g s x))
    (he : ∀ f s, I l.length s → lp (f + 1) (l.length : Int) s = k s) {s : S} (hs : I 0 s) {f : Nat} (hf : l.length < f) : lp f 0 s = k (l.foldl g s) ∧ I l.length (l.foldl g s) := by
  have := fold lp l.length (fun i s => atD l i (g s) s) I k (fun f i s hi hI => by
    obtain ⟨x, hx⟩ := nth_some hi
    rw [atD_some hx]
    exact h f i s x hi hx hI) he hs hf
  rw [foldl_atD] at this
  exact this

/-- Texts, one behind the other. -/
def catB : List ByteArray → ByteArray
  | [] => ⟨[].toArray⟩
  | x :: l => x ++ catB l

theorem ba_append_empty (x : ByteArray) : x ++ (⟨[].toArray⟩ : ByteArray) = x := by
  apply ByteArray.ext
  simp

theorem ba_empty_append (x : ByteArray) : (⟨[].toArray⟩ : ByteArray) ++ x = x := by
  apply ByteArray.ext
  simp

theorem tmod_nn {n m : Int} (h : 0 ≤ n) : n.tmod m = n % m := Int.tmod_eq_emod_of_nonneg h

/-- A list's fold that appends to a text. -/
theorem foldl_append {T : Type} (f : T → ByteArray) : ∀ (l : List T) (s : ByteArray), l.foldl (fun s x => s ++ f x) s = s ++ catB (l.map f)
  | [], s => by simp only [List.foldl_nil, List.map_nil, catB, ba_append_empty]
  | x :: l, s => by
    rw [List.foldl_cons, foldl_append f l, List.map_cons]
    simp only [catB, ByteArray.append_assoc]

theorem catB_append : ∀ (l m : List ByteArray), catB (l ++ m) = catB l ++ catB m
  | [], m => by simp only [List.nil_append, catB, ba_empty_append]
  | x :: l, m => by simp only [List.cons_append, catB, catB_append l m, ByteArray.append_assoc]


theorem src_n_shape (n : Int) (b : Bool) (p m z : Int) (l : List Int) : ∃ M : Int, ∀ k : Int → Int → Int → Option R, g_spec_l01Src_n_Wr N n b p m z l k = cond (decide (n ≤ 1)) (k 0 p m)
    (cond (decide (p < (l.length : Int))) (cond (decide (0 ≤ p) && decide (p < (l.length : Int))) (elemK l p.toNat fun x => cond (IntKind.wrap .u64 n == 0) none (k (IntKind.wrap .i64 (Int.tmod (IntKind.wrap .u64 (IntKind.wrap .u64 x + Int.fdiv M 1048576)) (IntKind.wrap .u64 n))) (IntKind.wrap .i64 (p + 1)) M)) none)
      (cond (IntKind.wrap .u64 n == 0) none (k (IntKind.wrap .i64 (Int.tmod (IntKind.wrap .u64 (0 + Int.fdiv M 1048576)) (IntKind.wrap .u64 n))) p M))) := ⟨_, fun _ => rfl⟩

theorem wu64_nn (n : Int) : 0 ≤ IntKind.wrap .u64 n := by
  unfold IntKind.wrap
  have hb : (2 : Int) ^ IntKind.u64.bits = 18446744073709551616 := by decide
  have hs : IntKind.u64.signed = false := rfl
  rw [hb, hs]
  simp only [Bool.false_and]
  rw [if_neg (by decide)]
  omega

/-- A drawn number. -/
theorem src_n {n : Int} {b : Bool} {p m z : Int} {l : List Int} (hn : n ≤ 2 ^ 62) (hl : l.length ≤ 2 ^ 30) (hp : 0 ≤ p ∧ p ≤ 2 ^ 40) :
    ∃ v p' m' : Int, 0 ≤ v ∧ (1 < n → v < n) ∧ (n ≤ 1 → v = 0) ∧ (0 ≤ p' ∧ p' ≤ 2 ^ 40) ∧ ∀ k : Int → Int → Int → Option R, g_spec_l01Src_n_Wr N n b p m z l k = k v p' m' := by
  obtain ⟨M, hM⟩ := src_n_shape (R := R) N n b p m z l
  by_cases h1 : n ≤ 1
  · exact ⟨0, p, m, Int.le_refl 0, fun h => by omega, fun _ => rfl, hp, fun k => by rw [hM, decide_eq_true h1, cond_true]⟩
  have hw : IntKind.wrap .u64 n = n := wu64 (by omega) (by omega)
  have h0 : (IntKind.wrap .u64 n == 0) = false := by rw [hw, beq_dec]; exact decide_eq_false (by omega)
  have key : ∀ X : Int, IntKind.wrap .i64 (Int.tmod (IntKind.wrap .u64 X) (IntKind.wrap .u64 n)) = IntKind.wrap .u64 X % n := by
    intro X
    have := wu64_nn X
    have h2 := Int.emod_nonneg (IntKind.wrap .u64 X) (show n ≠ 0 by omega)
    have h3 := Int.emod_lt_of_pos (IntKind.wrap .u64 X) (show 0 < n by omega)
    rw [hw, tmod_nn this, w64 (by omega) (by omega)]
  have bnd : ∀ X : Int, 0 ≤ IntKind.wrap .u64 X % n ∧ IntKind.wrap .u64 X % n < n := fun X => ⟨Int.emod_nonneg _ (by omega), Int.emod_lt_of_pos _ (by omega)⟩
  by_cases h2 : p < (l.length : Int)
  · obtain ⟨i, rfl⟩ := Int.eq_ofNat_of_zero_le hp.1
    obtain ⟨x, hx⟩ := nth_some (l := l) (n := i) (by omega)
    obtain ⟨b1, b2⟩ := bnd (IntKind.wrap .u64 x + Int.fdiv M 1048576)
    refine ⟨_, ((i + 1 : Nat) : Int), M, b1, fun _ => b2, fun h => by omega, by omega, fun k => ?_⟩
    rw [hM, decide_eq_false h1, cond_false, decide_eq_true h2, cond_true, dec_nn, Bool.and_self, cond_true, Int.toNat_natCast, elemK_some hx, h0, cond_false, key, w64 (n := (i : Int) + 1) (by omega) (by omega)]
    rfl
  · obtain ⟨b1, b2⟩ := bnd (0 + Int.fdiv M 1048576)
    exact ⟨_, p, M, b1, fun _ => b2, fun h => by omega, hp, fun k => by rw [hM, decide_eq_false h1, cond_false, decide_eq_false h2, cond_false, h0, cond_false, key]⟩

theorem src_one {n : Int} {b : Bool} {p m z : Int} {l : List Int} (hn : n ≤ 2 ^ 62) (hl : l.length ≤ 2 ^ 30) (hp : 0 ≤ p ∧ p ≤ 2 ^ 40) :
    ∃ (v : Bool) (p' m' : Int), (0 ≤ p' ∧ p' ≤ 2 ^ 40) ∧ ∀ k : Bool → Int → Int → Option R, g_spec_l01Src_one_Wr N n b p m z l k = k v p' m' := by
  obtain ⟨v, p', m', _, _, _, h, hk⟩ := src_n (R := R) N (b := b) (m := m) (z := z) hn hl hp
  exact ⟨_, p', m', h, fun k => by unfold g_spec_l01Src_one_Wr; rw [hk]⟩

/-- One of so many that are listed. -/
theorem pick_lit {T : Type} {L : List T} {v : Int} (h0 : 0 ≤ v) (h1 : v < (L.length : Int)) : ∃ x, x ∈ L ∧ ∀ K : T → Option R, elemK L v.toNat K = K x := by
  obtain ⟨i, rfl⟩ := Int.eq_ofNat_of_zero_le h0
  obtain ⟨x, hx⟩ := nth_some (l := L) (n := i) (by omega)
  exact ⟨x, nth_mem hx, fun K => by rw [Int.toNat_natCast, elemK_some hx]⟩

theorem in_rng {v n : Int} (h0 : 0 ≤ v) (h1 : v < n) : (decide (0 ≤ v) && decide (v < n)) = true := by rw [decide_eq_true h0, decide_eq_true h1]; rfl

theorem src_go {b1 b2 : Bool} {n1 n3 : Int} {l : List Int} (hl : l.length ≤ 2 ^ 30) : ∀ (d f i : Nat) (m : Int), i + d = l.length → d < f → ∃ m' : Int, ∀ kN : Int → Option R, l_spec_l01Source_r_0 N b1 l b2 n1 n3 kN f (i : Int) m = kN m' := by
  intro d
  induction d with
  | zero =>
    intro f i m hi hf
    obtain ⟨f, rfl⟩ : ∃ j, f = j + 1 := ⟨f - 1, by omega⟩
    refine ⟨m, fun kN => ?_⟩
    rw [l_spec_l01Source_r_0, s_spec_l01Source_r_0, decide_eq_false (show ¬ (i : Int) < (l.length : Int) by omega)]
    rfl
  | succ d ih =>
    intro f i m hi hf
    obtain ⟨f, rfl⟩ : ∃ j, f = j + 1 := ⟨f - 1, by omega⟩
    by_cases h : (i : Int) < 64
    · obtain ⟨x, hx⟩ := nth_some (l := l) (n := i) (by omega)
      have hlt : i < l.length := by omega
      obtain ⟨m', hm⟩ := ih f (i + 1) (IntKind.wrap .u64 ((IntKind.wrap .u64 (((BitVec.toNat ((BitVec.ofInt 64 m) ^^^ (BitVec.ofInt 64 (IntKind.wrap .u64 x)))) : Nat) : Int)) * (1099511628211 : Int))) (by omega) (by omega)
      refine ⟨m', fun kN => ?_⟩
      rw [l_spec_l01Source_r_0, s_spec_l01Source_r_0, dec_lt hlt, cond_true, oK_some_eq, decide_eq_true h, cond_true, dec_nn, Bool.and_self, cond_true, Int.toNat_natCast, elemK_some hx, wrap_next hlt (by omega)]
      exact hm kN
    · refine ⟨m, fun kN => ?_⟩
      rw [l_spec_l01Source_r_0, s_spec_l01Source_r_0, decide_eq_true (show (i : Int) < (l.length : Int) by omega), cond_true, oK_some_eq, decide_eq_false h, cond_false]

/-- A source. -/
theorem src_of {b : Bool} {l : List Int} (hl : l.length ≤ 2 ^ 30) (hN : 2 ^ 40 < N) : ∃ m z : Int, 0 ≤ z ∧ z ≤ 12 ∧ ∀ k : Int → Int → Option R, g_spec_l01Source_r N b l k = k m z := by
  obtain ⟨m, hm⟩ := src_go (R := R) N (b1 := b) (b2 := b) (n1 := 0) (n3 := 0) hl l.length N 0 88172645463325252 (by omega) (by omega)
  by_cases h : (l.length : Int) > 12
  · refine ⟨m, 12, by omega, by omega, fun k => ?_⟩
    unfold g_spec_l01Source_r c_spec_l01Source_r_0
    refine (hm _).trans ?_
    rw [decide_eq_true h, cond_true]
  · refine ⟨m, l.length, by omega, by omega, fun k => ?_⟩
    unfold g_spec_l01Source_r c_spec_l01Source_r_0
    refine (hm _).trans ?_
    rw [decide_eq_false h, cond_false]

theorem src_bytes_go {n4 n8 : Int} {b2 : Bool} {l : List Int} (hl : l.length ≤ 2 ^ 30) : ∀ (d f i : Nat) (p m : Int) (b1 : Bool) (L : List Int), (i : Int) + d = n4 → d < f → (0 ≤ p ∧ p ≤ 2 ^ 40) → L.length = i → i + d ≤ 2 ^ 30 →
    ∃ (b' : Bool) (p' m' : Int) (L' : List Int), (0 ≤ p' ∧ p' ≤ 2 ^ 40) ∧ L'.length = i + d ∧ ∀ kN : Bool → Int → Int → List Int → Option R, l_spec_l01Src_bytes_Wr_0 N n4 b2 n8 l kN f b1 (i : Int) p m L = kN b' p' m' L' := by
  intro d
  induction d with
  | zero =>
    intro f i p m b1 L hi hf hp hL hb
    obtain ⟨f, rfl⟩ : ∃ j, f = j + 1 := ⟨f - 1, by omega⟩
    refine ⟨b1, p, m, L, hp, by omega, fun kN => ?_⟩
    rw [l_spec_l01Src_bytes_Wr_0, s_spec_l01Src_bytes_Wr_0, decide_eq_false (show ¬ (i : Int) < n4 by omega), cond_false]
  | succ d ih =>
    intro f i p m b1 L hi hf hp hL hb
    obtain ⟨f, rfl⟩ : ∃ j, f = j + 1 := ⟨f - 1, by omega⟩
    obtain ⟨v, p1, m1, h0, h1, _, hp1, hv⟩ := src_n (R := R) N (n := 256) (b := b2) (m := m) (z := n8) (by omega) hl hp
    obtain ⟨b', p', m', L', hp', hL', hk⟩ := ih f (i + 1) p1 m1 (cond (Nat.beq 1 0) b1 false) (L ++ [IntKind.wrap .u8 v]) (by omega) (by omega) hp1 (by rw [List.length_append, List.length_singleton, hL]) (by omega)
    refine ⟨b', p', m', L', hp', by omega, fun kN => ?_⟩
    rw [l_spec_l01Src_bytes_Wr_0, s_spec_l01Src_bytes_Wr_0, decide_eq_true (show (i : Int) < n4 by omega), cond_true, hv, List.length_singleton, room (show (L.length + 1) * 1 ≤ 2 ^ 47 by omega) (by omega), cond_true, w64 (n := (i : Int) + 1) (by omega) (by omega)]
    exact hk kN

/-- Drawn bytes. -/
theorem src_bytes {n : Nat} {b : Bool} {p m z : Int} {l : List Int} (hn : n ≤ 2 ^ 30) (hl : l.length ≤ 2 ^ 30) (hp : 0 ≤ p ∧ p ≤ 2 ^ 40) (hN : 2 ^ 40 < N) :
    ∃ (s : ByteArray) (p' m' : Int), s.size = n ∧ (0 ≤ p' ∧ p' ≤ 2 ^ 40) ∧ ∀ k : ByteArray → Int → Int → Option R, g_spec_l01Src_bytes_Wr N (n : Int) b p m z l k = k s p' m' := by
  obtain ⟨b', p', m', L', hp', hL', hk⟩ := src_bytes_go (R := R) N (n4 := (n : Int)) (n8 := z) (b2 := b) hl n N 0 p m false [] (by omega) (by omega) hp rfl (by omega)
  refine ⟨toBytes L', p', m', by rw [toBytes_size]; omega, hp', fun k => ?_⟩
  unfold g_spec_l01Src_bytes_Wr c_spec_l01Src_bytes_Wr_0
  refine (hk _).trans ?_
  rw [Nat.zero_add, ble_t (Nat.le_refl _), cond_true, seg_all]

/-- Drawn zeros. -/
theorem src_zeros {n : Nat} {b : Bool} {p m z : Int} {l : List Int} (hn : n ≤ 2 ^ 30) : ∃ s : ByteArray, s.size = n ∧ ∀ k : ByteArray → Option R, g_spec_l01Src_zeros_Wr N (n : Int) b p m z l k = k s := by
  refine ⟨toBytes (List.replicate n 0), by rw [toBytes_size, List.length_replicate], fun k => ?_⟩
  unfold g_spec_l01Src_zeros_Wr
  rw [dec_self, dec_nn, Int.toNat_natCast, room (by omega) (by omega), Bool.and_self, Bool.and_self, cond_true, Nat.zero_add, ble_t (Nat.le_refl _), cond_true, seg_all]


def dvB (x : Device) (p : Bool) : Bool :=
  !(decide (x.fKind ≥ 1) && decide (x.fKind ≤ 255)) || (!(decide (x.fPort ≥ 0) && decide (x.fPort ≤ 2047)) || (!(decide (x.fLine ≥ 0) && decide (x.fLine ≤ 6)) || p))

def dvBad (l : List Device) (i : Nat) : Bool :=
  match nth l i with
  | none => true
  | some x => dvB x (prevIs (fun y x => decide (y.fPort ≥ x.fPort)) l i x)

def boardFault (fr cp : Int) (l : List Device) : Int :=
  cond (!(decide (fr ≥ 2) && decide (fr ≤ 256)) || (!(decide (cp ≥ 1) && decide (cp ≤ 8)) || decide (l.length > 16))) 1 (cond ((List.range l.length).any (dvBad l)) 1 0)

theorem impl_BoardFault_eq {fr cp : Int} {l : List Device} {b : Bool} (hN : 2 ^ 40 < N) (k : Int → Option R) : g_impl_BoardFault_w N fr cp b l k = k (boardFault fr cp l) := by
  unfold g_impl_BoardFault_w boardFault
  have hg : decide ((l.length : Int) > 16) = decide (l.length > 16) := decide_eq_decide.2 (by omega)
  simp only [hg, impl_yin_eq, cond_somes, oK_some_eq, Bool.cond_true_left]
  by_cases hp : (!(decide (fr ≥ 2) && decide (fr ≤ 256)) || (!(decide (cp ≥ 1) && decide (cp ≤ 8)) || decide (l.length > 16))) = true
  · rw [hp]; rfl
  · rw [Bool.not_eq_true] at hp
    have hl : ¬ l.length > 16 := fun e => by rw [decide_eq_true e] at hp; simp at hp
    rw [hp]
    simp only [cond_false]
    unfold c_impl_BoardFault_w_0
    refine (srch (l_impl_BoardFault_w_0 N b l.length l fr cp b (k 1) (k 0)) l.length (dvBad l) (k 1) (k 0) (fun f i hi => ?_) (fun f => ?_) (by omega)).trans (cond_app _ k 1 0)
    · obtain ⟨x, hx⟩ := nth_some hi
      simp only [l_impl_BoardFault_w_0, s_impl_BoardFault_w_0, dec_lt hi, dec_nn, Int.toNat_natCast, elemK_some hx, wrap_next hi (by omega), Bool.and_true, cond_true, dvBad, hx]
      by_cases h0 : 0 < i
      · obtain ⟨y, hy⟩ := nth_some (l := l) (n := i - 1) (by omega)
        simp only [wrap_prev h0 (by omega), Int.toNat_natCast, elemK_some hy, prevIs, hy, dec_nn, dec_lt (show i - 1 < l.length by omega), decide_eq_true h0, decide_eq_true (show (i : Int) > 0 by omega), impl_yin_eq, Bool.and_true, cond_true, cond_somes, oK_some_eq, Bool.true_and]
        refine congrArg (fun c => cond c _ _) ?_
        rw [Bool.eq_iff_iff]
        simp [dvB]
      · have h00 : i = 0 := by omega
        subst h00
        simp only [prevIs, decide_eq_false (show ¬ (0 : Nat) < 0 by omega), decide_eq_false (show ¬ ((0 : Nat) : Int) > 0 by omega), impl_yin_eq, cond_somes, oK_some_eq, cond_false, Bool.false_and]
        refine congrArg (fun c => cond c _ _) ?_
        rw [Bool.eq_iff_iff]
        simp [dvB]
    · simp only [l_impl_BoardFault_w_0, s_impl_BoardFault_w_0, dec_nlt, cond_false]

theorem spec_BoardFault_eq {fr cp : Int} {l : List Device} {b : Bool} (hN : 2 ^ 40 < N) (k : Int → Option R) : g_spec_BoardFault_w N fr cp b l k = k (boardFault fr cp l) := by
  unfold g_spec_BoardFault_w boardFault
  have hg : decide ((l.length : Int) > 16) = decide (l.length > 16) := decide_eq_decide.2 (by omega)
  have hq : (decide (fr < 2) || (decide (fr > 256) || (decide (cp < 1) || (decide (cp > 8) || decide (l.length > 16))))) = (!(decide (fr ≥ 2) && decide (fr ≤ 256)) || (!(decide (cp ≥ 1) && decide (cp ≤ 8)) || decide (l.length > 16))) := by
    rw [Bool.eq_iff_iff]; simp; omega
  simp only [hg, cond_somes, oK_some_eq, Bool.cond_true_left, hq]
  by_cases hp : (!(decide (fr ≥ 2) && decide (fr ≤ 256)) || (!(decide (cp ≥ 1) && decide (cp ≤ 8)) || decide (l.length > 16))) = true
  · rw [hp]; rfl
  · rw [Bool.not_eq_true] at hp
    have hl : ¬ l.length > 16 := fun e => by rw [decide_eq_true e] at hp; simp at hp
    rw [hp]
    simp only [cond_false]
    unfold c_spec_BoardFault_w_0
    refine (srch (l_spec_BoardFault_w_0 N l fr cp b (k 1) (k 0)) l.length (dvBad l) (k 1) (k 0) (fun f i hi => ?_) (fun f => ?_) (by omega)).trans (cond_app _ k 1 0)
    · obtain ⟨x, hx⟩ := nth_some hi
      simp only [l_spec_BoardFault_w_0, s_spec_BoardFault_w_0, dec_lt hi, dec_nn, Int.toNat_natCast, elemK_some hx, wrap_next hi (by omega), Bool.and_true, cond_true, dvBad, hx]
      by_cases h0 : 0 < i
      · obtain ⟨y, hy⟩ := nth_some (l := l) (n := i - 1) (by omega)
        simp only [wrap_prev h0 (by omega), Int.toNat_natCast, elemK_some hy, prevIs, hy, dec_nn, dec_lt (show i - 1 < l.length by omega), decide_eq_true h0, decide_eq_true (show (i : Int) > 0 by omega), Bool.and_true, cond_true, cond_somes, oK_some_eq, Bool.true_and]
        refine congrArg (fun c => cond c _ _) ?_
        rw [Bool.eq_iff_iff]
        simp [dvB]
        omega
      · have h00 : i = 0 := by omega
        subst h00
        simp only [prevIs, decide_eq_false (show ¬ (0 : Nat) < 0 by omega), decide_eq_false (show ¬ ((0 : Nat) : Int) > 0 by omega), cond_somes, oK_some_eq, cond_false, Bool.false_and]
        refine congrArg (fun c => cond c _ _) ?_
        rw [Bool.eq_iff_iff]
        simp [dvB]
        omega
    · simp only [l_spec_BoardFault_w_0, s_spec_BoardFault_w_0, dec_nlt, cond_false]

def devWord (x : Device) : Int := IntKind.wrap .i64 (IntKind.wrap .i64 (IntKind.wrap .i64 (x.fKind * 16777216) + IntKind.wrap .i64 (x.fLine * 65536)) + x.fPort)

def devWords (l : List Device) : ByteArray := l.foldl (fun s x => s ++ putWord (devWord x)) ⟨[].toArray⟩

def tables (fr cp : Int) (l : List Device) : List FirmTable := cond (boardFault fr cp l != 0) []
  [⟨⟨[(77 : UInt8), (69 : UInt8), (77 : UInt8), (79 : UInt8)].toArray⟩, 1, putWord fr⟩, ⟨⟨[(67 : UInt8), (80 : UInt8), (85 : UInt8), (83 : UInt8)].toArray⟩, 1, putWord cp⟩, ⟨⟨[(68 : UInt8), (69 : UInt8), (86 : UInt8), (83 : UInt8)].toArray⟩, 1, devWords l⟩]

theorem boardFault_len {fr cp : Int} {l : List Device} (h : (boardFault fr cp l != 0) = false) : l.length ≤ 16 := by
  unfold boardFault at h
  rcases Nat.lt_or_ge 16 l.length with hl | hl
  · rw [decide_eq_true (show l.length > 16 from hl)] at h
    simp at h
  · exact hl

theorem impl_TablesOf_eq {fr cp : Int} {l : List Device} {b : Bool} (hN : 2 ^ 40 < N) (k : Bool → List FirmTable → Option R) : g_impl_TablesOf_w N fr cp b l k = k (boardFault fr cp l != 0) (tables fr cp l) := by
  unfold g_impl_TablesOf_w tables
  rw [impl_BoardFault_eq N hN]
  by_cases h : (boardFault fr cp l != 0) = true
  · rw [h]; rfl
  · rw [Bool.not_eq_true] at h
    have hl := boardFault_len h
    rw [h]
    simp only [cond_false]
    unfold c_impl_TablesOf_w_0
    have h1 := fold (fun f i s => l_impl_TablesOf_w_0 N b l.length l fr cp b (fun s2 => g_impl_PutWord N fr fun s3 => g_impl_PutWord N cp fun s4 => k false [⟨⟨[(77 : UInt8), (69 : UInt8), (77 : UInt8), (79 : UInt8)].toArray⟩, 1, s3⟩, ⟨⟨[(67 : UInt8), (80 : UInt8), (85 : UInt8), (83 : UInt8)].toArray⟩, 1, s4⟩, ⟨⟨[(68 : UInt8), (69 : UInt8), (86 : UInt8), (83 : UInt8)].toArray⟩, 1, s2⟩]) f s i) l.length (fun i s => atD l i (fun x => s ++ putWord (devWord x)) s) (fun i s => s.size = 4 * i) _ (fun f i s hi hs => by
      obtain ⟨x, hx⟩ := nth_some hi
      simp only [l_impl_TablesOf_w_0, s_impl_TablesOf_w_0, dec_lt hi, dec_nn, Int.toNat_natCast, elemK_some hx, wrap_next hi (by omega), Bool.and_true, cond_true, impl_PutWord_eq, atD_some hx, ble_t (show s.size + (putWord (IntKind.wrap .i64 (IntKind.wrap .i64 (IntKind.wrap .i64 (x.fKind * 16777216) + IntKind.wrap .i64 (x.fLine * 65536)) + x.fPort))).size ≤ 9223372036854775807 by rw [putWord_size]; omega)]
      refine ⟨rfl, ?_⟩
      rw [ByteArray.size_append, putWord_size]; omega) (fun f s hs => by
      simp only [l_impl_TablesOf_w_0, s_impl_TablesOf_w_0, dec_nlt, cond_false]
      rfl) (s := ⟨[].toArray⟩) rfl (f := N) (by omega)
    rw [foldl_atD l (fun s x => s ++ putWord (devWord x))] at h1
    refine h1.1.trans ?_
    simp only [impl_PutWord_eq]
    rfl

theorem spec_TablesOf_eq {fr cp : Int} {l : List Device} {b : Bool} (hN : 2 ^ 40 < N) (k : List FirmTable → Option R) : g_spec_TablesOf_w N fr cp b l k = k (tables fr cp l) := by
  unfold g_spec_TablesOf_w tables
  rw [spec_BoardFault_eq N hN]
  by_cases h : (boardFault fr cp l != 0) = true
  · rw [h]; rfl
  · rw [Bool.not_eq_true] at h
    have hl := boardFault_len h
    rw [h]
    simp only [cond_false]
    unfold c_spec_TablesOf_w_0
    have h1 := fold (fun f i s => l_spec_TablesOf_w_0 N l fr cp b (fun s2 => g_spec_PutWord N fr fun s3 => g_spec_PutWord N cp fun s4 => k [⟨⟨[(77 : UInt8), (69 : UInt8), (77 : UInt8), (79 : UInt8)].toArray⟩, 1, s3⟩, ⟨⟨[(67 : UInt8), (80 : UInt8), (85 : UInt8), (83 : UInt8)].toArray⟩, 1, s4⟩, ⟨⟨[(68 : UInt8), (69 : UInt8), (86 : UInt8), (83 : UInt8)].toArray⟩, 1, s2⟩]) f s i) l.length (fun i s => atD l i (fun x => s ++ putWord (devWord x)) s) (fun i s => s.size = 4 * i) _ (fun f i s hi hs => by
      obtain ⟨x, hx⟩ := nth_some hi
      simp only [l_spec_TablesOf_w_0, s_spec_TablesOf_w_0, dec_lt hi, dec_nn, Int.toNat_natCast, elemK_some hx, wrap_next hi (by omega), Bool.and_true, cond_true, spec_PutWord_eq, atD_some hx, ble_t (show s.size + (putWord (IntKind.wrap .i64 (IntKind.wrap .i64 (IntKind.wrap .i64 (x.fKind * 16777216) + IntKind.wrap .i64 (x.fLine * 65536)) + x.fPort))).size ≤ 9223372036854775807 by rw [putWord_size]; omega)]
      refine ⟨rfl, ?_⟩
      rw [ByteArray.size_append, putWord_size]; omega) (fun f s hs => by
      simp only [l_spec_TablesOf_w_0, s_spec_TablesOf_w_0, dec_nlt, cond_false]
      rfl) (s := ⟨[].toArray⟩) rfl (f := N) (by omega)
    rw [foldl_atD l (fun s x => s ++ putWord (devWord x))] at h1
    refine h1.1.trans ?_
    simp only [spec_PutWord_eq]
    rfl

theorem tables_length (fr cp : Int) (l : List Device) : (tables fr cp l).length ≤ 3 := by
  unfold tables
  cases (boardFault fr cp l != 0) <;> simp

theorem word_neg (n : Int) : word (0 - word n) = word (-n) := by unfold word; omega

theorem putWord_congr {a b : Int} (h : word a = word b) : putWord a = putWord b := by unfold putWord; rw [h]

def tblStep (base : Int) (st : ByteArray × ByteArray) (x : FirmTable) : ByteArray × ByteArray := (st.1 ++ putWord (IntKind.wrap .i64 (base + (st.2.size : Int))), st.2 ++ tblText x)

def tblBase (n : Int) (m : Nat) : Int := IntKind.wrap .i64 (IntKind.wrap .i64 (n + 12) + IntKind.wrap .i64 (4 * (m : Int)))

def tblRows (n : Int) (l : List FirmTable) : ByteArray × ByteArray := l.foldl (tblStep (tblBase n l.length)) (⟨[(70 : UInt8), (73 : UInt8), (82 : UInt8), (77 : UInt8)].toArray⟩ ++ putWord l.length, ⟨[].toArray⟩)

theorem tblOk_facts {x : FirmTable} (h : tblOk x = true) : x.fName.size = 4 ∧ 0 ≤ x.fRev ∧ x.fRev ≤ 255 ∧ x.fBody.size ≤ 200 ∧ x.fBody.size % 4 = 0 := by
  unfold tblOk nameOk at h
  simp only [Bool.and_eq_true, decide_eq_true_eq, beq_iff_eq] at h
  omega

theorem tblText_size_ok {x : FirmTable} (h : tblOk x = true) : (tblText x).size = 8 + x.fBody.size := by
  rw [tblText_size, (tblOk_facts h).1]

theorem impl_PutTables_loop {s : ByteArray} {n : Int} {l : List FirmTable} {b : Bool} (hl : l.length ≤ 10) (hx : ∀ x ∈ l, tblOk x = true) (hN : 2 ^ 40 < N) (k : ByteArray → ByteArray → Option R) :
    c_impl_PutTables_w_0 N s n (tblBase n l.length) b l.length l (⟨[(70 : UInt8), (73 : UInt8), (82 : UInt8), (77 : UInt8)].toArray⟩ ++ putWord l.length) ⟨[].toArray⟩ 0 k = k (tblRows n l).1 (tblRows n l).2 ∧ (tblRows n l).1.size = 8 + 4 * l.length ∧ (tblRows n l).2.size ≤ 208 * l.length := by
  unfold c_impl_PutTables_w_0
  have h1 := fold (fun f i (st : ByteArray × ByteArray) => l_impl_PutTables_w_0 N s n (tblBase n l.length) b l.length l k f st.1 st.2 i) l.length (fun i st => atD l i (fun x => tblStep (tblBase n l.length) st x) st)
    (fun i st => st.1.size = 8 + 4 * i ∧ st.2.size ≤ 208 * i) (fun st => k st.1 st.2) (fun f i st hi hs => by
      obtain ⟨s3, s4⟩ := st
      obtain ⟨hs1, hs2⟩ := hs
      dsimp only at hs1 hs2
      obtain ⟨x, hx1⟩ := nth_some hi
      have hm : x ∈ l := by rw [nth_eq] at hx1; exact List.mem_of_getElem? hx1
      have hok := hx x hm
      obtain ⟨q1, q2, q3, q4, q5⟩ := tblOk_facts hok
      have e1 : IntKind.wrap .i64 (((BitVec.ofInt 64 (IntKind.wrap .i64 (IntKind.wrap .i64 (8 + (x.fBody.size : Int)) * 65536)) ||| BitVec.ofInt 64 (IntKind.wrap .i64 (x.fRev * 256))).toNat : Nat) : Int) = ((x.fBody.size : Int) + 8) * 65536 + x.fRev * 256 := by
        rw [w64 (n := 8 + (x.fBody.size : Int)) (by omega) (by omega), w64 (n := (8 + (x.fBody.size : Int)) * 65536) (by omega) (by omega), w64 (n := x.fRev * 256) (by omega) (by omega),
          or_add (a := (8 + (x.fBody.size : Int)) * 65536) (b := x.fRev * 256) 16 (by omega) (by omega) (by omega) (by omega) (by omega)]
        omega
      have e3 : ∀ bs : Int, IntKind.wrap .i64 (((BitVec.ofInt 64 (((x.fBody.size : Int) + 8) * 65536 + x.fRev * 256) ||| BitVec.ofInt 64 (IntKind.wrap .i64 (((BitVec.ofInt 64 (IntKind.wrap .i64 (256 - bs % 256)) &&& BitVec.ofInt 64 255).toNat : Nat) : Int))).toNat : Nat) : Int) = ((x.fBody.size : Int) + 8) * 65536 + x.fRev * 256 + (-bs) % 256 := by
        intro bs
        rw [and255, w64 (n := 256 - bs % 256) (by omega) (by omega), or_add (a := ((x.fBody.size : Int) + 8) * 65536 + x.fRev * 256) (b := (256 - bs % 256) % 256) 8 (by omega) (by omega) (by omega) (by omega) (by omega)]
        omega
      have hsz : ∀ w, ((x.fName ++ putWord w) ++ x.fBody).size = 8 + x.fBody.size := fun w => by rw [ByteArray.size_append, ByteArray.size_append, putWord_size]; omega
      have hsz2 : ∀ w, (x.fName ++ putWord w).size = 8 := fun w => by rw [ByteArray.size_append, putWord_size]; omega
      simp only [l_impl_PutTables_w_0, s_impl_PutTables_w_0, dec_lt hi, dec_nn, Int.toNat_natCast, elemK_some hx1, wrap_next hi (by omega), Bool.and_true, cond_true, atD_some hx1, impl_PutWord_eq, putWord_size, ble_t (show s3.size + 4 ≤ 9223372036854775807 by omega), e1, ble_t (show x.fName.size + 4 ≤ 9223372036854775807 by omega), hsz2, ble_t (show 8 + x.fBody.size ≤ 9223372036854775807 by omega),
        impl_ybyteSum_eq N (show ((x.fName ++ putWord (((x.fBody.size : Int) + 8) * 65536 + x.fRev * 256)) ++ x.fBody).size ≤ 2 ^ 40 by rw [hsz]; omega) hN, e3, hsz, ble_t (show s4.size + (8 + x.fBody.size) ≤ 9223372036854775807 by omega)]
      refine ⟨rfl, ?_, ?_⟩
      · show (s3 ++ putWord _).size = _
        rw [ByteArray.size_append, putWord_size]; omega
      · show (s4 ++ tblText x).size ≤ _
        rw [ByteArray.size_append, tblText_size_ok hok]; omega) (fun f st hs => by
      simp only [l_impl_PutTables_w_0, s_impl_PutTables_w_0, dec_nlt, cond_false]) (s := (⟨[(70 : UInt8), (73 : UInt8), (82 : UInt8), (77 : UInt8)].toArray⟩ ++ putWord l.length, ⟨[].toArray⟩)) ⟨by rw [ByteArray.size_append, putWord_size]; rfl, by show (0 : Nat) ≤ _; omega⟩ (f := N) (by omega)
  rw [foldl_atD l (tblStep (tblBase n l.length))] at h1
  exact h1

def putTables (s : ByteArray) (n : Int) (l : List FirmTable) : ByteArray :=
  cond (memOk s && (!decide (n < 0) && (!(Int.tmod n 4 != 0) && (!decide ((l.length : Int) > 10) && !(l.any fun x => !tblOk x)))))
    (cond (fitsAt s.size n (((tblRows n l).1 ++ putWord (-(wordSum (tblRows n l).1))) ++ (tblRows n l).2).size) (splice s n.toNat (((tblRows n l).1 ++ putWord (-(wordSum (tblRows n l).1))) ++ (tblRows n l).2)) ⟨[].toArray⟩) ⟨[].toArray⟩

theorem containsFunc_table_eq {l : List FirmTable} {b : Bool} (hl : l.length ≤ 2 ^ 40) (hx : ∀ x ∈ l, x.fName.size ≤ 2 ^ 40) (hN : 2 ^ 40 < N) (k : Bool → Option R) : g_slices_ContainsFunc_FirmTable_Fimpl_PutTables_1_r N b l k = k (l.any fun x => !tblOk x) := by
  unfold g_slices_ContainsFunc_FirmTable_Fimpl_PutTables_1_r
  rw [indexFunc_table_eq N hl hx hN, fstAt_nonneg, any_atD]

theorem impl_PutTables_eq {s : ByteArray} {n : Int} {l : List FirmTable} {b : Bool} (hs : s.size ≤ 2 ^ 30) (hl : l.length ≤ 2 ^ 40) (hx : ∀ x ∈ l, x.fName.size ≤ 2 ^ 30) (hN : 2 ^ 40 < N) (k : ByteArray → Option R) : g_impl_PutTables_w N s n b l k = k (putTables s n l) := by
  unfold g_impl_PutTables_w putTables
  simp only [impl_ymemOk_eq, containsFunc_table_eq N hl (fun x hm => by have := hx x hm; omega) hN, cond_somes, oK_some_eq, Bool.cond_true_left]
  have hj : (!memOk s || (decide (n < 0) || (n.tmod 4 != 0 || (decide ((l.length : Int) > 10) || l.any fun x => !tblOk x)))) = !(memOk s && (!decide (n < 0) && (!(n.tmod 4 != 0) && (!decide ((l.length : Int) > 10) && !(l.any fun x => !tblOk x))))) := by
    cases memOk s <;> cases decide (n < 0) <;> cases (n.tmod 4 != 0) <;> cases decide ((l.length : Int) > 10) <;> cases (l.any fun x => !tblOk x) <;> rfl
  rw [hj]
  by_cases hg : (memOk s && (!decide (n < 0) && (!(n.tmod 4 != 0) && (!decide ((l.length : Int) > 10) && !(l.any fun x => !tblOk x))))) = true
  · rw [hg]
    simp only [Bool.and_eq_true, Bool.not_eq_true', decide_eq_false_iff_not] at hg
    obtain ⟨_, _, _, h10, hany⟩ := hg
    have hall : ∀ x ∈ l, tblOk x = true := by
      intro x hm
      have := List.any_eq_false.1 hany x hm
      simpa using this
    obtain ⟨a1, a2, a3⟩ := impl_PutTables_loop N (s := s) (n := n) (b := b) (l := l) (by omega) hall hN (fun s8 s9 =>
      (g_impl_ywordSum N s8 fun n6 =>
      (g_impl_PutWord N (IntKind.wrap .i64 ((0 : Int) - n6)) fun s10 =>
      (cond (Nat.ble ((ByteArray.size s8) + (ByteArray.size s10)) 9223372036854775807)
      (cond (Nat.ble ((ByteArray.size (s8 ++ s10)) + (ByteArray.size s9)) 9223372036854775807)
        (g_impl_yfits N (((ByteArray.size s) : Nat) : Int) n (((ByteArray.size ((s8 ++ s10) ++ s9)) : Nat) : Int) fun b4 =>
          (cond (!b4)
          (k (ByteArray.mk (List.toArray [])))
          (g_impl_ysplice N s n ((s8 ++ s10) ++ s9) fun s11 =>
            (k s11))))
        none)
      none))))
    rw [Bool.not_true, cond_false, cond_true, impl_PutWord_eq, putWord_size, show Nat.ble (4 + 4) 9223372036854775807 = true from rfl, cond_true]
    refine a1.trans ?_
    generalize tblRows n l = st at a2 a3 ⊢
    obtain ⟨hd, bd⟩ := st
    dsimp only at a2 a3 ⊢
    obtain ⟨_, w1, w2⟩ := spec_l21Words_eq N (s := hd) (by omega) hN (fun _ => (none : Option R))
    have ew : putWord (IntKind.wrap .i64 (0 - word (wordSum hd))) = putWord (-(wordSum hd)) := by
      apply putWord_congr
      rw [w64 (by unfold word; omega) (by unfold word; omega), word_neg]
    rw [impl_ywordSum_eq N (by omega) (by omega) hN, impl_PutWord_eq, ew, putWord_size, ble_t (by omega), cond_true, ble_t (by rw [ByteArray.size_append, putWord_size]; omega), cond_true, impl_yfits_eq]
    cases hf : fitsAt s.size n ((hd ++ putWord (-(wordSum hd))) ++ bd).size with
    | false => rfl
    | true =>
      simp only [Bool.not_true, cond_false, cond_true]
      rw [impl_ysplice_eq N (by omega) hf]
  · rw [Bool.not_eq_true] at hg
    rw [hg]; rfl

theorem spec_PutTables_loop {s : ByteArray} {n : Int} {l : List FirmTable} {b : Bool} (hl : l.length ≤ 10) (hx : ∀ x ∈ l, x.fName.size ≤ 2 ^ 30 ∧ x.fBody.size ≤ 2 ^ 30) (hN : 2 ^ 40 < N) (k0 : Option R) (k : ByteArray → ByteArray → Option R) :
    c_spec_PutTables_w_0 N s n b l (⟨[(70 : UInt8), (73 : UInt8), (82 : UInt8), (77 : UInt8)].toArray⟩ ++ putWord l.length) ⟨[].toArray⟩ 0 (fun _ _ => k0) k = cond (l.any fun x => !tblOk x) k0 (k (tblRows n l).1 (tblRows n l).2) := by
  unfold c_spec_PutTables_w_0
  have h1 := foldE (fun f i (st : ByteArray × ByteArray) => l_spec_PutTables_w_0 N s n b l (fun _ _ => k0) k f st.1 st.2 i) l.length (fun i => atD l i (fun x => !tblOk x) true) (fun i st => atD l i (fun x => tblStep (tblBase n l.length) st x) st)
    (fun i st => st.1.size = 8 + 4 * i ∧ st.2.size ≤ 208 * i) (fun st => k st.1 st.2) k0 (fun f i st hi hs => by
      obtain ⟨s3, s4⟩ := st
      obtain ⟨hs1, hs2⟩ := hs
      dsimp only at hs1 hs2
      obtain ⟨x, hx1⟩ := nth_some hi
      have hm : x ∈ l := by rw [nth_eq] at hx1; exact List.mem_of_getElem? hx1
      obtain ⟨q1, q2⟩ := hx x hm
      simp only [l_spec_PutTables_w_0, s_spec_PutTables_w_0, dec_lt hi, dec_nn, Int.toNat_natCast, elemK_some hx1, wrap_next hi (by omega), Bool.and_true, cond_true, atD_some hx1, spec_PutWord_eq, putWord_size, ble_t (show s3.size + 4 ≤ 9223372036854775807 by omega), spec_l21Table_eq N x q1 q2 hN]
      cases hok : tblOk x with
      | false => exact ⟨rfl, fun h => by cases h⟩
      | true =>
        have hz := tblText_size_ok hok
        obtain ⟨_, _, _, q4, _⟩ := tblOk_facts hok
        have hne : decide (tblText x = ⟨[].toArray⟩) = false := decide_eq_false (fun h => by
          have := congrArg ByteArray.size h
          rw [hz] at this
          have h0 : (⟨[].toArray⟩ : ByteArray).size = 0 := rfl
          omega)
        simp only [cond_true, hne, cond_false, ble_t (show s4.size + (tblText x).size ≤ 9223372036854775807 by omega), Bool.not_true]
        refine ⟨rfl, fun _ => ⟨?_, ?_⟩⟩
        · show (s3 ++ putWord _).size = _
          rw [ByteArray.size_append, putWord_size]; omega
        · show (s4 ++ tblText x).size ≤ _
          rw [ByteArray.size_append, hz]; omega) (fun f st hs => by
      simp only [l_spec_PutTables_w_0, s_spec_PutTables_w_0, dec_nlt, cond_false]) (s := (⟨[(70 : UInt8), (73 : UInt8), (82 : UInt8), (77 : UInt8)].toArray⟩ ++ putWord l.length, ⟨[].toArray⟩)) ⟨by rw [ByteArray.size_append, putWord_size]; rfl, by show (0 : Nat) ≤ _; omega⟩ (f := N) (by omega)
  rw [foldl_atD l (tblStep (tblBase n l.length)), any_atD] at h1
  exact h1.1


def abc : ByteArray := ⟨[(97 : UInt8), (98 : UInt8), (99 : UInt8)].toArray⟩

def fBody (s : ByteArray) (b2 : Bool) (p m n9 : Int) (l1 : List Int) (LEAF : ByteArray → Int → Int → Option R) : Option R :=
  g_spec_l01Src_one_Wr N 15 b2 p m n9 l1 fun b5 n31 n32 =>
    cond b5
      (g_spec_l01Src_zeros_Wr N 200 b2 n31 n32 n9 l1 fun s1 =>
        g_spec_l01Src_zeros_Wr N 204 b2 n31 n32 n9 l1 fun s2 =>
        g_spec_l01Src_n_Wr N 3 b2 n31 n32 n9 l1 fun n33 n34 n35 =>
        cond (decide (0 ≤ n33) && decide (n33 < (([abc, s1, s2].length : Nat) : Int)))
          (elemK [abc, s1, s2] n33.toNat fun x3 => LEAF x3 n34 n35) none)
      (LEAF s n31 n32)

theorem fBody_ok {s : ByteArray} {b2 : Bool} {p m n9 : Int} {l1 : List Int} (hs : s.size ≤ 300) (hl : l1.length ≤ 2 ^ 30) (hp : 0 ≤ p ∧ p ≤ 2 ^ 40) :
    ∃ (bd : ByteArray) (p' m' : Int), bd.size ≤ 300 ∧ (0 ≤ p' ∧ p' ≤ 2 ^ 40) ∧ ∀ LEAF : ByteArray → Int → Int → Option R, fBody N s b2 p m n9 l1 LEAF = LEAF bd p' m' := by
  obtain ⟨b5, p1, m1, hp1, h1⟩ := src_one (R := R) N (n := 15) (b := b2) (m := m) (z := n9) (by omega) hl hp
  cases b5 with
  | false => exact ⟨s, p1, m1, hs, hp1, fun LEAF => by unfold fBody; rw [h1, cond_false]⟩
  | true =>
    obtain ⟨s1, z1, e1⟩ := src_zeros (R := R) N (n := 200) (b := b2) (p := p1) (m := m1) (z := n9) (l := l1) (by omega)
    obtain ⟨s2, z2, e2⟩ := src_zeros (R := R) N (n := 204) (b := b2) (p := p1) (m := m1) (z := n9) (l := l1) (by omega)
    obtain ⟨v, p2, m2, v0, v1, _, hp2, h2⟩ := src_n (R := R) N (n := 3) (b := b2) (m := m1) (z := n9) (by omega) hl hp1
    have v2 := v1 (by omega)
    obtain ⟨x, hx, hk⟩ := pick_lit (R := R) (L := [abc, s1, s2]) v0 (by simpa using v2)
    refine ⟨x, p2, m2, ?_, hp2, fun LEAF => ?_⟩
    · simp only [List.mem_cons, List.not_mem_nil, or_false] at hx
      rcases hx with rfl | rfl | rfl
      · show (3 : Nat) ≤ 300; omega
      · omega
      · omega
    · unfold fBody
      rw [h1, cond_true]
      have e1 : ∀ k : ByteArray → Option R, g_spec_l01Src_zeros_Wr N 200 b2 p1 m1 n9 l1 k = k s1 := e1
      have e2 : ∀ k : ByteArray → Option R, g_spec_l01Src_zeros_Wr N 204 b2 p1 m1 n9 l1 k = k s2 := e2
      rw [e1, e2, h2, in_rng v0 (show v < (([abc, s1, s2].length : Nat) : Int) by simpa using v2), cond_true, hk]

def ftLeaf (L : List FirmTable) (n6 : Int) (b1 : Bool) (ag : Bool → Int → Int → Int → List FirmTable → Option R) (x : ByteArray) (r : Int) (bd : ByteArray) (p m : Int) : Option R :=
  cond (roomOk (L.length + [FirmTable.mk x r bd].length) 40) (ag (cond (Nat.beq [FirmTable.mk x r bd].length 0) b1 false) (IntKind.wrap .i64 (n6 - 1)) p m (L ++ [FirmTable.mk x r bd])) none

theorem ft_step {b2 b1 : Bool} {n9 n6 p m : Int} {l1 : List Int} {L : List FirmTable} (hl : l1.length ≤ 2 ^ 30) (hN : 2 ^ 40 < N) (h6 : 0 < n6) (hL : L.length ≤ 100) (hp : 0 ≤ p ∧ p ≤ 2 ^ 40) :
    ∃ (x : FirmTable) (p' m' : Int), x.fName.size ≤ 300 ∧ x.fBody.size ≤ 300 ∧ (0 ≤ p' ∧ p' ≤ 2 ^ 40) ∧ ∀ (ag : Bool → Int → Int → Int → List FirmTable → Option R) (kN : Bool → Int → Int → List FirmTable → Option R),
      s_spec_l01Src_firmTables_Wr_0 N b2 n9 l1 b1 n6 p m L ag kN = ag false (IntKind.wrap .i64 (n6 - 1)) p' m' (L ++ [x]) := by
  obtain ⟨v1, p1, m1, a0, a1, _, hp1, h1⟩ := src_n (R := R) N (n := 3) (b := b2) (m := m) (z := n9) (by omega) hl hp
  have a2 := a1 (by omega)
  obtain ⟨x, hx, hk1⟩ := pick_lit (R := R) (L := [(⟨[(77 : UInt8), (69 : UInt8), (77 : UInt8), (79 : UInt8)].toArray⟩ : ByteArray), ⟨[(67 : UInt8), (80 : UInt8), (85 : UInt8), (83 : UInt8)].toArray⟩, ⟨[(65 : UInt8), (66 : UInt8), (67 : UInt8), (68 : UInt8)].toArray⟩]) a0 (by simpa using a2)
  have hxs : x.size ≤ 300 := by
    simp only [List.mem_cons, List.not_mem_nil, or_false] at hx
    rcases hx with rfl | rfl | rfl <;> (show (4 : Nat) ≤ 300; omega)
  obtain ⟨v2, p2, m2, b0, b1', _, hp2, h2⟩ := src_n (R := R) N (n := 256) (b := b2) (m := m1) (z := n9) (by omega) hl hp1
  obtain ⟨v3, p3, m3, c0, c1, _, hp3, h3⟩ := src_n (R := R) N (n := 5) (b := b2) (m := m2) (z := n9) (by omega) hl hp2
  have c2 := c1 (by omega)
  obtain ⟨w3, rfl⟩ := Int.eq_ofNat_of_zero_le c0
  have e3 : IntKind.wrap .i64 (4 * (w3 : Int)) = ((4 * w3 : Nat) : Int) := by rw [w64 (by omega) (by omega)]; omega
  obtain ⟨s, p4, m4, hs, hp4, h4⟩ := src_bytes (R := R) N (n := 4 * w3) (b := b2) (m := m3) (z := n9) (by omega) hl hp3 hN
  obtain ⟨b3, p5, m5, hp5, h5⟩ := src_one (R := R) N (n := 15) (b := b2) (m := m4) (z := n9) (by omega) hl hp4
  have leaf : ∀ (x : ByteArray) (r : Int) (bd : ByteArray) (p m : Int) (ag : Bool → Int → Int → Int → List FirmTable → Option R), ftLeaf L n6 b1 ag x r bd p m = ag false (IntKind.wrap .i64 (n6 - 1)) p m (L ++ [⟨x, r, bd⟩]) := fun x r bd p m ag => by
    unfold ftLeaf
    rw [List.length_singleton, room (by omega) (by omega), cond_true]
    rfl
  have head : ∀ (ag : Bool → Int → Int → Int → List FirmTable → Option R) (kN : Bool → Int → Int → List FirmTable → Option R), s_spec_l01Src_firmTables_Wr_0 N b2 n9 l1 b1 n6 p m L ag kN =
      cond b3
        (g_spec_l01Src_n_Wr N 4 b2 p5 m5 n9 l1 fun n23 n24 n25 =>
          cond (decide (0 ≤ n23) && decide (n23 < 4))
            (elemK [(⟨[].toArray⟩ : ByteArray), ⟨[(65 : UInt8), (66 : UInt8), (67 : UInt8)].toArray⟩, ⟨[(97 : UInt8), (98 : UInt8), (99 : UInt8), (100 : UInt8)].toArray⟩, ⟨[(65 : UInt8), (66 : UInt8), (67 : UInt8), (68 : UInt8), (69 : UInt8)].toArray⟩] n23.toNat fun x1 =>
              g_spec_l01Src_one_Wr N 15 b2 n24 n25 n9 l1 fun b4 n26 n27 =>
              cond b4
                (g_spec_l01Src_n_Wr N 2 b2 n26 n27 n9 l1 fun n28 n29 n30 =>
                  cond (decide (0 ≤ n28) && decide (n28 < 2)) (elemK [(-(1 : Int)), (256 : Int)] n28.toNat fun x2 => fBody N s b2 n29 n30 n9 l1 (fun bd p m => ftLeaf L n6 b1 ag x1 x2 bd p m)) none)
                (fBody N s b2 n26 n27 n9 l1 (fun bd p m => ftLeaf L n6 b1 ag x1 v2 bd p m))) none)
        (g_spec_l01Src_one_Wr N 15 b2 p5 m5 n9 l1 fun b7 n41 n42 =>
          cond b7
            (g_spec_l01Src_n_Wr N 2 b2 n41 n42 n9 l1 fun n43 n44 n45 =>
              cond (decide (0 ≤ n43) && decide (n43 < 2)) (elemK [(-(1 : Int)), (256 : Int)] n43.toNat fun x5 => fBody N s b2 n44 n45 n9 l1 (fun bd p m => ftLeaf L n6 b1 ag x x5 bd p m)) none)
            (fBody N s b2 n41 n42 n9 l1 (fun bd p m => ftLeaf L n6 b1 ag x v2 bd p m))) := fun ag kN => by
    rw [s_spec_l01Src_firmTables_Wr_0, decide_eq_true h6, cond_true, h1, in_rng a0 a2, cond_true, hk1, h2, h3, e3, h4, h5]
    rfl
  cases b3 with
  | true =>
    obtain ⟨v6, p6, m6, d0, d1, _, hp6, h6'⟩ := src_n (R := R) N (n := 4) (b := b2) (m := m5) (z := n9) (by omega) hl hp5
    have d2 := d1 (by omega)
    obtain ⟨x1, hx1, hk6⟩ := pick_lit (R := R) (L := [(⟨[].toArray⟩ : ByteArray), ⟨[(65 : UInt8), (66 : UInt8), (67 : UInt8)].toArray⟩, ⟨[(97 : UInt8), (98 : UInt8), (99 : UInt8), (100 : UInt8)].toArray⟩, ⟨[(65 : UInt8), (66 : UInt8), (67 : UInt8), (68 : UInt8), (69 : UInt8)].toArray⟩]) d0 (by simpa using d2)
    have hxs1 : x1.size ≤ 300 := by
      simp only [List.mem_cons, List.not_mem_nil, or_false] at hx1
      rcases hx1 with rfl | rfl | rfl | rfl <;> first | (show (0 : Nat) ≤ 300; omega) | (show (3 : Nat) ≤ 300; omega) | (show (4 : Nat) ≤ 300; omega) | (show (5 : Nat) ≤ 300; omega)
    obtain ⟨b4, p7, m7, hp7, h7⟩ := src_one (R := R) N (n := 15) (b := b2) (m := m6) (z := n9) (by omega) hl hp6
    cases b4 with
    | true =>
      obtain ⟨v8, p8, m8, f0, f1, _, hp8, h8⟩ := src_n (R := R) N (n := 2) (b := b2) (m := m7) (z := n9) (by omega) hl hp7
      have f2 := f1 (by omega)
      obtain ⟨x2, _, hk8⟩ := pick_lit (R := R) (L := [(-(1 : Int)), (256 : Int)]) f0 (by simpa using f2)
      obtain ⟨bd, p9, m9, hbd, hp9, h9⟩ := fBody_ok (R := R) N (s := s) (b2 := b2) (m := m8) (n9 := n9) (by omega) hl hp8
      exact ⟨⟨x1, x2, bd⟩, p9, m9, hxs1, hbd, hp9, fun ag kN => by rw [head, cond_true, h6', in_rng d0 d2, cond_true, hk6, h7, cond_true, h8, in_rng f0 f2, cond_true, hk8, h9, leaf]⟩
    | false =>
      obtain ⟨bd, p9, m9, hbd, hp9, h9⟩ := fBody_ok (R := R) N (s := s) (b2 := b2) (m := m7) (n9 := n9) (by omega) hl hp7
      exact ⟨⟨x1, v2, bd⟩, p9, m9, hxs1, hbd, hp9, fun ag kN => by rw [head, cond_true, h6', in_rng d0 d2, cond_true, hk6, h7, cond_false, h9, leaf]⟩
  | false =>
    obtain ⟨b7, p7, m7, hp7, h7⟩ := src_one (R := R) N (n := 15) (b := b2) (m := m5) (z := n9) (by omega) hl hp5
    cases b7 with
    | true =>
      obtain ⟨v8, p8, m8, f0, f1, _, hp8, h8⟩ := src_n (R := R) N (n := 2) (b := b2) (m := m7) (z := n9) (by omega) hl hp7
      have f2 := f1 (by omega)
      obtain ⟨x2, _, hk8⟩ := pick_lit (R := R) (L := [(-(1 : Int)), (256 : Int)]) f0 (by simpa using f2)
      obtain ⟨bd, p9, m9, hbd, hp9, h9⟩ := fBody_ok (R := R) N (s := s) (b2 := b2) (m := m8) (n9 := n9) (by omega) hl hp8
      exact ⟨⟨x, x2, bd⟩, p9, m9, hxs, hbd, hp9, fun ag kN => by rw [head, cond_false, h7, cond_true, h8, in_rng f0 f2, cond_true, hk8, h9, leaf]⟩
    | false =>
      obtain ⟨bd, p9, m9, hbd, hp9, h9⟩ := fBody_ok (R := R) N (s := s) (b2 := b2) (m := m7) (n9 := n9) (by omega) hl hp7
      exact ⟨⟨x, v2, bd⟩, p9, m9, hxs, hbd, hp9, fun ag kN => by rw [head, cond_false, h7, cond_false, h9, leaf]⟩

def smallT (L : List FirmTable) : Prop := ∀ x ∈ L, x.fName.size ≤ 300 ∧ x.fBody.size ≤ 300

theorem ft_go {b2 : Bool} {n9 : Int} {l1 : List Int} (hl : l1.length ≤ 2 ^ 30) (hN : 2 ^ 40 < N) : ∀ (d f : Nat) (b1 : Bool) (p m : Int) (L : List FirmTable), d < f → L.length + d ≤ 100 → smallT L → (0 ≤ p ∧ p ≤ 2 ^ 40) →
    ∃ (b' : Bool) (p' m' : Int) (L' : List FirmTable), L'.length ≤ 100 ∧ smallT L' ∧ (0 ≤ p' ∧ p' ≤ 2 ^ 40) ∧ ∀ kN : Bool → Int → Int → List FirmTable → Option R, l_spec_l01Src_firmTables_Wr_0 N b2 n9 l1 kN f b1 (d : Int) p m L = kN b' p' m' L' := by
  intro d
  induction d with
  | zero =>
    intro f b1 p m L hf hL hs hp
    obtain ⟨f, rfl⟩ : ∃ j, f = j + 1 := ⟨f - 1, by omega⟩
    refine ⟨b1, p, m, L, by omega, hs, hp, fun kN => ?_⟩
    rw [l_spec_l01Src_firmTables_Wr_0, s_spec_l01Src_firmTables_Wr_0, decide_eq_false (show ¬ ((0 : Nat) : Int) > 0 by omega), cond_false]
  | succ d ih =>
    intro f b1 p m L hf hL hs hp
    obtain ⟨f, rfl⟩ : ∃ j, f = j + 1 := ⟨f - 1, by omega⟩
    obtain ⟨x, p1, m1, hx1, hx2, hp1, h1⟩ := ft_step (R := R) N (b2 := b2) (b1 := b1) (n9 := n9) (n6 := ((d + 1 : Nat) : Int)) (m := m) (L := L) hl hN (by omega) (by omega) hp
    have e : IntKind.wrap .i64 (((d + 1 : Nat) : Int) - 1) = ((d : Nat) : Int) := by rw [w64 (by omega) (by omega)]; omega
    rw [e] at h1
    obtain ⟨b', p', m', L', a1, a2, a3, a4⟩ := ih f false p1 m1 (L ++ [x]) (by omega) (by rw [List.length_append, List.length_singleton]; omega) (fun y hy => by
      rcases List.mem_append.1 hy with hy | hy
      · exact hs y hy
      · rw [List.mem_singleton.1 hy]; exact ⟨hx1, hx2⟩) hp1
    exact ⟨b', p', m', L', a1, a2, a3, fun kN => by rw [l_spec_l01Src_firmTables_Wr_0, h1]; exact a4 kN⟩

theorem ft_rep {b13 : Bool} {n64 n65 n66 : Int} {l5 : List Int} : ∀ (d f : Nat) (b : Bool) (L : List FirmTable), d < f → 0 < L.length → L.length + d ≤ 100 → smallT L →
    ∃ (b' : Bool) (L' : List FirmTable), L'.length ≤ 100 ∧ smallT L' ∧ ∀ kN : Bool → List FirmTable → Option R, l_spec_l01Src_firmTables_Wr_2 N b13 n64 n65 n66 l5 kN f b (d : Int) L = kN b' L' := by
  intro d
  induction d with
  | zero =>
    intro f b L hf h0 hL hs
    obtain ⟨f, rfl⟩ : ∃ j, f = j + 1 := ⟨f - 1, by omega⟩
    refine ⟨b, L, by omega, hs, fun kN => ?_⟩
    rw [l_spec_l01Src_firmTables_Wr_2, s_spec_l01Src_firmTables_Wr_2, decide_eq_false (show ¬ ((0 : Nat) : Int) > 0 by omega), cond_false]
  | succ d ih =>
    intro f b L hf h0 hL hs
    obtain ⟨f, rfl⟩ : ∃ j, f = j + 1 := ⟨f - 1, by omega⟩
    obtain ⟨x, hx⟩ := nth_some (l := L) (n := 0) h0
    have e : IntKind.wrap .i64 (((d + 1 : Nat) : Int) - 1) = ((d : Nat) : Int) := by rw [w64 (by omega) (by omega)]; omega
    obtain ⟨b', L', a1, a2, a3⟩ := ih f false (L ++ [x]) (by omega) (by rw [List.length_append, List.length_singleton]; omega) (by rw [List.length_append, List.length_singleton]; omega) (fun y hy => by
      rcases List.mem_append.1 hy with hy | hy
      · exact hs y hy
      · rw [List.mem_singleton.1 hy]; exact hs x (nth_mem hx))
    refine ⟨b', L', a1, a2, fun kN => ?_⟩
    rw [l_spec_l01Src_firmTables_Wr_2, s_spec_l01Src_firmTables_Wr_2, decide_eq_true (show ((d + 1 : Nat) : Int) > 0 by omega), cond_true, decide_eq_true (show (0 : Int) < (L.length : Int) by omega), cond_true, elemK_some hx, List.length_singleton, room (by omega) (by omega), cond_true, e]
    exact a3 kN

theorem firmTables_ok {b : Bool} {p m z : Int} {l : List Int} (hl : l.length ≤ 2 ^ 30) (hp : 0 ≤ p ∧ p ≤ 2 ^ 40) (hN : 2 ^ 40 < N) :
    ∃ (b' : Bool) (p' m' : Int) (L : List FirmTable), L.length ≤ 100 ∧ smallT L ∧ ∀ k : Bool → Int → Int → List FirmTable → Option R, g_spec_l01Src_firmTables_Wr N b p m z l k = k b' p' m' L := by
  obtain ⟨v, p1, m1, a0, a1, _, hp1, h1⟩ := src_n (R := R) N (n := 4) (b := b) (m := m) (z := z) (by omega) hl hp
  have a2 := a1 (by omega)
  obtain ⟨d, rfl⟩ := Int.eq_ofNat_of_zero_le a0
  obtain ⟨b10, p2, m2, L1, c1, c2, hp2, h2⟩ := ft_go (R := R) N (b2 := b) (n9 := z) hl hN d N false p1 m1 [] (by omega) (by simp; omega) (by intro x hx; cases hx) hp1
  obtain ⟨b11, p3, m3, hp3, h3⟩ := src_one (R := R) N (n := 30) (b := b) (m := m2) (z := z) (by omega) hl hp2
  cases b11 with
  | false =>
    refine ⟨b10, p3, m3, L1, c1, c2, fun k => ?_⟩
    unfold g_spec_l01Src_firmTables_Wr c_spec_l01Src_firmTables_Wr_0
    rw [h1]
    refine (h2 _).trans ?_
    rw [h3, cond_false]
  | true =>
    obtain ⟨v2, p4, m4, d0, d1, _, hp4, h4⟩ := src_n (R := R) N (n := 2) (b := b) (m := m3) (z := z) (by omega) hl hp3
    have d2 := d1 (by omega)
    obtain ⟨w, rfl⟩ := Int.eq_ofNat_of_zero_le d0
    have e : IntKind.wrap .i64 (7 + (w : Int)) = ((7 + w : Nat) : Int) := by rw [w64 (by omega) (by omega)]; omega
    have ht : ∀ x ∈ tables 2 1 [], x.fName.size ≤ 300 ∧ x.fBody.size ≤ 300 := by
      intro x hx
      have hf : (boardFault 2 1 [] != 0) = false := by decide
      unfold tables at hx
      rw [hf, cond_false] at hx
      simp only [List.mem_cons, List.not_mem_nil, or_false] at hx
      rcases hx with rfl | rfl | rfl
      · exact ⟨by show (4 : Nat) ≤ 300; omega, by show (putWord 2).size ≤ 300; rw [putWord_size]; omega⟩
      · exact ⟨by show (4 : Nat) ≤ 300; omega, by show (putWord 1).size ≤ 300; rw [putWord_size]; omega⟩
      · exact ⟨by show (4 : Nat) ≤ 300; omega, by show (0 : Nat) ≤ 300; omega⟩
    have hlen : (tables 2 1 []).length = 3 := by
      have hf : (boardFault 2 1 [] != 0) = false := by decide
      unfold tables; rw [hf]; rfl
    obtain ⟨b14, L2, f1, f2, h5⟩ := ft_rep (R := R) N (b13 := b) (n64 := p4) (n65 := m4) (n66 := z) (l5 := l) (7 + w) N false (tables 2 1 []) (by omega) (by omega) (by omega) ht
    refine ⟨b14, p4, m4, L2, f1, f2, fun k => ?_⟩
    unfold g_spec_l01Src_firmTables_Wr c_spec_l01Src_firmTables_Wr_0 c_spec_l01Src_firmTables_Wr_2
    rw [h1]
    refine (h2 _).trans ?_
    rw [h3, cond_true, spec_TablesOf_eq N hN, h4, e]
    exact h5 _

theorem frames_go {b1 b2 : Bool} {n10 : Int} {l1 : List Int} (hl : l1.length ≤ 2 ^ 30) : ∀ (d f : Nat) (p m : Int) (L : List Int), d < f → d ≤ 100 → 0 < L.length → L.length ≤ 2 ^ 30 → (0 ≤ p ∧ p ≤ 2 ^ 40) →
    ∃ (p' m' : Int) (L' : List Int), L'.length = L.length ∧ (0 ≤ p' ∧ p' ≤ 2 ^ 40) ∧ ∀ kN : Int → Int → List Int → Option R, l_spec_l01Src_frames_Wr_0 N b1 b2 n10 l1 kN f (d : Int) p m L = kN p' m' L' := by
  intro d
  induction d with
  | zero =>
    intro f p m L hf hd h0 hL hp
    obtain ⟨f, rfl⟩ : ∃ j, f = j + 1 := ⟨f - 1, by omega⟩
    refine ⟨p, m, L, rfl, hp, fun kN => ?_⟩
    rw [l_spec_l01Src_frames_Wr_0, s_spec_l01Src_frames_Wr_0, decide_eq_false (show ¬ ((0 : Nat) : Int) > 0 by omega), cond_false]
  | succ d ih =>
    intro f p m L hf hd h0 hL hp
    obtain ⟨f, rfl⟩ : ∃ j, f = j + 1 := ⟨f - 1, by omega⟩
    obtain ⟨v1, p1, m1, a0, a1, a3, hp1, h1⟩ := src_n (R := R) N (n := (L.length : Int)) (b := b2) (m := m) (z := n10) (by omega) hl hp
    have a2 : v1 < (L.length : Int) := by
      rcases Nat.lt_or_ge 1 L.length with h | h
      · exact a1 (by omega)
      · have := a3 (by omega); omega
    obtain ⟨v2, p2, m2, c0, c1, _, hp2, h2⟩ := src_n (R := R) N (n := 256) (b := b2) (m := m1) (z := n10) (by omega) hl hp1
    obtain ⟨i, rfl⟩ := Int.eq_ofNat_of_zero_le a0
    obtain ⟨x, hx⟩ := nth_some (l := L) (n := i) (by omega)
    have e : IntKind.wrap .i64 (((d + 1 : Nat) : Int) - 1) = ((d : Nat) : Int) := by rw [w64 (by omega) (by omega)]; omega
    obtain ⟨p', m', L', f1, f2, f3⟩ := ih f p2 m2 (nset L i (IntKind.wrap .u8 v2)) (by omega) (by omega) (by rw [nset_length]; exact h0) (by rw [nset_length]; exact hL) hp2
    refine ⟨p', m', L', by rw [f1, nset_length], f2, fun kN => ?_⟩
    rw [l_spec_l01Src_frames_Wr_0, s_spec_l01Src_frames_Wr_0, decide_eq_true (show ((d + 1 : Nat) : Int) > 0 by omega), cond_true, h1, h2, in_rng a0 a2, cond_true, Int.toNat_natCast, elemK_some hx, blt_t (show i < L.length by omega), cond_true, e]
    exact f3 kN

theorem src_frames {n : Nat} {b : Bool} {p m z : Int} {l : List Int} (hn : 0 < n) (hn2 : n ≤ 1000) (hl : l.length ≤ 2 ^ 30) (hp : 0 ≤ p ∧ p ≤ 2 ^ 40) (hN : 2 ^ 40 < N) :
    ∃ (s : ByteArray) (p' m' : Int), s.size = n * 256 ∧ (0 ≤ p' ∧ p' ≤ 2 ^ 40) ∧ ∀ k : ByteArray → Int → Int → Option R, g_spec_l01Src_frames_Wr N (n : Int) b p m z l k = k s p' m' := by
  have e : IntKind.wrap .i64 ((n : Int) * 256) = ((n * 256 : Nat) : Int) := by rw [w64 (by omega) (by omega)]; omega
  obtain ⟨v, p1, m1, a0, a1, _, hp1, h1⟩ := src_n (R := R) N (n := 6) (b := b) (m := m) (z := z) (by omega) hl hp
  have a2 := a1 (by omega)
  obtain ⟨d, rfl⟩ := Int.eq_ofNat_of_zero_le a0
  obtain ⟨p2, m2, L, c1, hp2, h2⟩ := frames_go (R := R) N (b1 := false) (b2 := b) (n10 := z) hl d N p1 m1 (List.replicate (n * 256) 0) (by omega) (by omega) (by rw [List.length_replicate]; omega) (by rw [List.length_replicate]; omega) hp1
  refine ⟨toBytes L, p2, m2, by rw [toBytes_size, c1, List.length_replicate], hp2, fun k => ?_⟩
  unfold g_spec_l01Src_frames_Wr c_spec_l01Src_frames_Wr_0
  rw [e, dec_self, dec_nn, Int.toNat_natCast, room (by omega) (by omega), Bool.and_self, Bool.and_self, cond_true, h1]
  refine (h2 _).trans ?_
  rw [Nat.zero_add, ble_t (Nat.le_refl _), cond_true, seg_all]

theorem DrawPutTables_ok {b : Bool} {l : List Int} (hl : l.length ≤ 2 ^ 30) (hN : 2 ^ 40 < N) : ∃ (s : ByteArray) (n : Int) (b' : Bool) (L : List FirmTable), s.size ≤ 65536 ∧ L.length ≤ 100 ∧ smallT L ∧ ∀ k : ByteArray → Int → Bool → List FirmTable → Option R, g_spec_DrawPutTables_r N b l k = k s n b' L := by
  obtain ⟨m, z, _, _, h0⟩ := src_of (R := R) N (b := b) hl hN
  obtain ⟨v1, p1, m1, a0, a1, _, hp1, h1⟩ := src_n (R := R) N (n := 3) (b := b) (p := 0) (m := m) (z := z) (by omega) hl (by omega)
  have a2 := a1 (by omega)
  obtain ⟨w, rfl⟩ := Int.eq_ofNat_of_zero_le a0
  have e : IntKind.wrap .i64 (1 + (w : Int)) = ((1 + w : Nat) : Int) := by rw [w64 (by omega) (by omega)]; omega
  obtain ⟨s, p2, m2, hs, hp2, h2⟩ := src_frames (R := R) N (n := 1 + w) (b := b) (m := m1) (z := z) (by omega) (by omega) hl hp1 hN
  obtain ⟨v3, p3, m3, c0, c1, _, hp3, h3⟩ := src_n (R := R) N (n := 8) (b := b) (m := m2) (z := z) (by omega) hl hp2
  have c2 := c1 (by omega)
  obtain ⟨x, _, hk⟩ := pick_lit (R := R) (L := [(0 : Int), (4 : Int), (256 : Int), (200 : Int), (2 : Int), (-(4 : Int)), (768 : Int), (250 : Int)]) c0 (by simpa using c2)
  obtain ⟨b', p4, m4, L, f1, f2, h4⟩ := firmTables_ok (R := R) N (b := b) (m := m3) (z := z) hl hp3 hN
  refine ⟨s, x, b', L, by omega, f1, f2, fun k => ?_⟩
  unfold g_spec_DrawPutTables_r
  rw [h0, h1, e, h2, h3, in_rng c0 c2, cond_true, hk, h4]


def devAt (s : ByteArray) (j : Nat) : Device := ⟨wordAt s (4 * j) / 16777216, wordAt s (4 * j) % 65536, wordAt s (4 * j) / 65536 % 256⟩

def devs (s : ByteArray) : List Device := (List.range (s.size / 4)).map (devAt s)

theorem devs_length (s : ByteArray) : (devs s).length = s.size / 4 := by simp [devs]

theorem and65535 (n : Int) : IntKind.wrap .i64 (((BitVec.ofInt 64 n &&& BitVec.ofInt 64 65535).toNat : Nat) : Int) = n % 65536 := and_mask n 16 (by omega)

theorem impl_BoardOf_1_eq (x : FirmTable) (hx : x.fName.size ≤ 2 ^ 40) (hN : 2 ^ 40 < N) (k : Bool → Option R) : g_impl_BoardOf_1 N x.fName x.fRev x.fBody k = k (!tblOk x) := by
  unfold g_impl_BoardOf_1 g_impl_ytableOk
  have hg : decide ((x.fBody.size : Int) ≤ 200) = decide (x.fBody.size ≤ 200) := decide_eq_decide.2 (by omega)
  simp only [impl_ytableName_eq N hx hN, impl_yin_eq, hg, tmod4, cond_somes, oK_some_eq]
  refine congrArg k ?_
  unfold tblOk
  cases nameOk x.fName <;> cases (decide (x.fRev ≥ 0) && decide (x.fRev ≤ 255)) <;> cases decide (x.fBody.size ≤ 200) <;> rfl

theorem indexFunc_board_eq {l : List FirmTable} {b : Bool} (hl : l.length ≤ 2 ^ 40) (hx : ∀ x ∈ l, x.fName.size ≤ 2 ^ 40) (hN : 2 ^ 40 < N) (k : Int → Option R) : g_slices_IndexFunc_FirmTable_Fimpl_BoardOf_1_r N b l k = k (fstAt l.length (fun i => atD l i (fun x => !tblOk x) true)) := by
  unfold g_slices_IndexFunc_FirmTable_Fimpl_BoardOf_1_r c_slices_IndexFunc_FirmTable_Fimpl_BoardOf_1_r_0
  rw [srchI (l_slices_IndexFunc_FirmTable_Fimpl_BoardOf_1_r_0 N b l.length l (fun n3 => k n3) (k (-1))) l.length (fun i => atD l i (fun x => !tblOk x) true) (fun n3 => k n3) (k (-1)) (fun f i hi => ?_) (fun f => ?_) (by omega)]
  · unfold fstAt
    split <;> rfl
  · obtain ⟨x, hx1⟩ := nth_some hi
    have hm : x ∈ l := by rw [nth_eq] at hx1; exact List.mem_of_getElem? hx1
    simp only [l_slices_IndexFunc_FirmTable_Fimpl_BoardOf_1_r_0, s_slices_IndexFunc_FirmTable_Fimpl_BoardOf_1_r_0, dec_lt hi, dec_nn, Int.toNat_natCast, elemK_some hx1, wrap_next hi (by omega), Bool.and_true, cond_true, atD_some hx1, impl_BoardOf_1_eq N x (hx x hm) hN]
  · simp only [l_slices_IndexFunc_FirmTable_Fimpl_BoardOf_1_r_0, s_slices_IndexFunc_FirmTable_Fimpl_BoardOf_1_r_0, dec_nlt, cond_false]

theorem containsFunc_board_eq {l : List FirmTable} {b : Bool} (hl : l.length ≤ 2 ^ 40) (hx : ∀ x ∈ l, x.fName.size ≤ 2 ^ 40) (hN : 2 ^ 40 < N) (k : Bool → Option R) : g_slices_ContainsFunc_FirmTable_Fimpl_BoardOf_1_r N b l k = k (l.any fun x => !tblOk x) := by
  unfold g_slices_ContainsFunc_FirmTable_Fimpl_BoardOf_1_r
  rw [indexFunc_board_eq N hl hx hN, fstAt_nonneg, any_atD]

theorem ft_beq (x y : FirmTable) : (decide (x.fName = y.fName) && ((x.fRev == y.fRev) && decide (x.fBody = y.fBody))) = decide (x = y) := by
  obtain ⟨a, b, c⟩ := x
  obtain ⟨d, e, f⟩ := y
  rw [Bool.eq_iff_iff]
  simp

theorem slices_Equal_table_eq {l m : List FirmTable} {b b1 : Bool} (hl : l.length ≤ 2 ^ 40) (hN : 2 ^ 40 < N) (k : Bool → Option R) : g_slices_Equal_FirmTable_ww N b b1 l m k = k (decide (l = m)) := by
  unfold g_slices_Equal_FirmTable_ww
  by_cases h : l.length = m.length
  · rw [show ((l.length : Int) != (m.length : Int)) = false by rw [h]; simp, cond_false]
    unfold c_slices_Equal_FirmTable_ww_0
    refine (eql (l_slices_Equal_FirmTable_ww_0 N b b1 l.length l m (k false) (k true)) l m h (k false) (k true) (fun f i x y hi hx hy => ?_) (fun f => ?_) (by omega)).trans ?_
    · simp only [l_slices_Equal_FirmTable_ww_0, s_slices_Equal_FirmTable_ww_0, dec_lt hi, dec_nn, Int.toNat_natCast, elemK_some hx, elemK_some hy, dec_lt (show i < m.length by omega), ft_beq, wrap_next hi (by omega), Bool.and_true, cond_true]
    · simp only [l_slices_Equal_FirmTable_ww_0, s_slices_Equal_FirmTable_ww_0, dec_nlt, cond_false]
    · cases decide (l = m) <;> rfl
  · rw [show ((l.length : Int) != (m.length : Int)) = true by simp; omega, cond_true, decide_eq_false (fun e => h (by rw [e]))]

theorem impl_BoardOf_loop {s : ByteArray} {l : List FirmTable} {n5 n6 : Int} {b : Bool} (hs : s.size ≤ 2 ^ 30) (h4 : s.size % 4 = 0) (hN : 2 ^ 40 < N) (k : Bool → List Device → Option R) :
    c_impl_BoardOf_w_0 N b s l false 0 0 true [] n5 n6 0 true [] k = k (decide (s.size / 4 = 0)) (devs s) := by
  unfold c_impl_BoardOf_w_0
  obtain ⟨h1, h2, h3⟩ := fold (fun f i (st : Bool × List Device) => l_impl_BoardOf_w_0 N b s l false 0 0 true [] n5 n6 k f (4 * i) st.1 st.2) (s.size / 4) (fun i st => (false, st.2 ++ [devAt s i])) (fun i st => st.1 = decide (i = 0) ∧ st.2 = (List.range i).map (devAt s)) (fun st => k st.1 st.2) (fun f i st hi hs2 => by
      obtain ⟨c, ds⟩ := st
      obtain ⟨q1, q2⟩ := hs2
      dsimp only at q1 q2
      subst q1 q2
      obtain ⟨b1, b2⟩ := wordAt_bound s (4 * i)
      have e4 : (4 * (i : Int)) = ((4 * i : Nat) : Int) := by omega
      have e5 : IntKind.wrap .i64 (((4 * i : Nat) : Int) + 4) = 4 * ((i + 1 : Nat) : Int) := by rw [w64 (by omega) (by omega)]; omega
      simp only [e4, l_impl_BoardOf_w_0, s_impl_BoardOf_w_0, e5, dec_lt (show 4 * i < s.size by omega), impl_ywordAt_eq N (show 4 * i + 4 ≤ s.size by omega) (by omega), cond_true, fdiv_lit _ (show (0 : Int) ≤ 16777216 by omega), fdiv_lit _ (show (0 : Int) ≤ 65536 by omega), and65535, and255, List.length_map, List.length_range, List.length_singleton]
      rw [room (by omega) (by omega), cond_true]
      refine ⟨rfl, (decide_eq_false (by omega)).symm, ?_⟩
      rw [List.range_succ, List.map_append]; rfl) (fun f st hs2 => by
      have e4 : (4 * ((s.size / 4 : Nat) : Int)) = (s.size : Int) := by omega
      simp only [e4, l_impl_BoardOf_w_0, s_impl_BoardOf_w_0, dec_nlt, cond_false]) (s := (true, [])) ⟨rfl, rfl⟩ (f := N) (by omega)
  refine h1.trans ?_
  rw [h2, h3]
  rfl

def boardOf (l : List FirmTable) : Bool × Int × Int × Bool × List Device :=
  match l with
  | [x, y, z] => cond ((x.fBody.size == 4) && ((y.fBody.size == 4) && (decide (z.fBody.size ≤ 64) && decide (tables (wordAt x.fBody 0) (wordAt y.fBody 0) (devs z.fBody) = l))))
      (true, wordAt x.fBody 0, wordAt y.fBody 0, decide (z.fBody.size / 4 = 0), devs z.fBody) (false, 0, 0, true, [])
  | _ => (false, 0, 0, true, [])

theorem devWords_size (l : List Device) : (devWords l).size = 4 * l.length := by
  have key : ∀ (l : List Device) (s : ByteArray), (l.foldl (fun s x => s ++ putWord (devWord x)) s).size = s.size + 4 * l.length := by
    intro l
    induction l with
    | nil => intro s; rfl
    | cons x l ih =>
      intro s
      rw [List.foldl_cons, ih, ByteArray.size_append, putWord_size, List.length_cons]
      omega
  have := key l ⟨[].toArray⟩
  rw [show (⟨[].toArray⟩ : ByteArray).size = 0 from rfl, Nat.zero_add] at this
  exact this

theorem tables_ok {fr cp : Int} {l : List Device} : ∀ x ∈ tables fr cp l, tblOk x = true := by
  intro x hx
  unfold tables at hx
  cases h : boardFault fr cp l != 0 with
  | true => rw [h] at hx; cases hx
  | false =>
    have hd := boardFault_len h
    have hz : (devWords l).size = 4 * l.length := devWords_size l
    rw [h] at hx
    simp only [cond_false, List.mem_cons, List.not_mem_nil, or_false] at hx
    have n1 : nameOk ⟨[(77 : UInt8), (69 : UInt8), (77 : UInt8), (79 : UInt8)].toArray⟩ = true := by decide
    have n2 : nameOk ⟨[(67 : UInt8), (80 : UInt8), (85 : UInt8), (83 : UInt8)].toArray⟩ = true := by decide
    have n3 : nameOk ⟨[(68 : UInt8), (69 : UInt8), (86 : UInt8), (83 : UInt8)].toArray⟩ = true := by decide
    unfold tblOk
    rcases hx with rfl | rfl | rfl
    · rw [n1, putWord_size]; rfl
    · rw [n2, putWord_size]; rfl
    · rw [n3, hz]
      simp
      omega

theorem slice3 {l : List FirmTable} (h : l.length = 3) : ∃ x y z, l = [x, y, z] := by
  match l, h with
  | [x, y, z], _ => exact ⟨x, y, z, rfl⟩

theorem word4 {s : ByteArray} (h : s.size = 4) : g_impl_ywordAt N s 0 = fun k : Int → Option R => k (wordAt s 0) := by
  funext k
  exact impl_ywordAt_eq N (i := 0) (by omega) (by omega) k

theorem impl_BoardOf_eq {l : List FirmTable} {b : Bool} (hl : l.length ≤ 2 ^ 40) (hx : ∀ x ∈ l, x.fName.size ≤ 2 ^ 30 ∧ x.fBody.size ≤ 2 ^ 30) (hN : 2 ^ 40 < N) (k : Bool → Int → Int → Bool → List Device → Option R) :
    g_impl_BoardOf_w N b l k = k (boardOf l).1 (boardOf l).2.1 (boardOf l).2.2.1 (boardOf l).2.2.2.1 (boardOf l).2.2.2.2 := by
  unfold g_impl_BoardOf_w
  rw [containsFunc_board_eq N hl (fun x hm => by have := hx x hm; omega) hN]
  by_cases h3 : l.length = 3
  · obtain ⟨x, y, z, rfl⟩ := slice3 h3
    have hany : (([x, y, z] : List FirmTable).any fun x => !tblOk x) = !(tblOk x && (tblOk y && tblOk z)) := by
      simp only [List.any_cons, List.any_nil, Bool.or_false, Bool.not_and]
    have e0 : ∀ f : FirmTable → Option R, elemK [x, y, z] 0 f = f x := fun f => rfl
    have e0b : ∀ f : FirmTable → Option Bool, elemK [x, y, z] 0 f = f x := fun f => rfl
    have e1 : ∀ f : FirmTable → Option R, elemK [x, y, z] 1 f = f y := fun f => rfl
    have e1b : ∀ f : FirmTable → Option Bool, elemK [x, y, z] 1 f = f y := fun f => rfl
    have e2 : ∀ f : FirmTable → Option R, elemK [x, y, z] 2 f = f z := fun f => rfl
    have g0 : decide ((0 : Int) < (([x, y, z].length : Nat) : Int)) = true := rfl
    have g1 : decide ((1 : Int) < (([x, y, z].length : Nat) : Int)) = true := rfl
    have g2 : decide ((2 : Int) < (([x, y, z].length : Nat) : Int)) = true := rfl
    have g3 : ((([x, y, z].length : Nat) : Int) != 3) = false := rfl
    simp only [hany, e0, e0b, e1, e1b, e2, g0, g1, g2, g3, cond_true, cond_false, cond_somes, oK_some_eq, Bool.cond_true_left]
    have s4 : ∀ s : ByteArray, ((s.size : Int) != 4) = !(s.size == 4) := fun s => by rw [Bool.eq_iff_iff]; simp; omega
    rw [s4, s4]
    unfold boardOf
    by_cases hg : (tblOk x && (tblOk y && tblOk z)) = true ∧ x.fBody.size = 4 ∧ y.fBody.size = 4
    · obtain ⟨hok, hx4, hy4⟩ := hg
      have hz := (tblOk_facts (show tblOk z = true by simp only [Bool.and_eq_true] at hok; exact hok.2.2))
      obtain ⟨_, _, _, hz1, hz2⟩ := hz
      have bx : (x.fBody.size == 4) = true := by simpa using hx4
      have by' : (y.fBody.size == 4) = true := by simpa using hy4
      rw [hok, bx, by']
      simp only [Bool.not_true, Bool.false_or, cond_false, word4 N hx4, word4 N hy4]
      rw [impl_BoardOf_loop N (by omega) hz2 hN, impl_TablesOf_eq N hN, slices_Equal_table_eq N (by have := tables_length (wordAt x.fBody 0) (wordAt y.fBody 0) (devs z.fBody); omega) hN]
      by_cases ht : tables (wordAt x.fBody 0) (wordAt y.fBody 0) (devs z.fBody) = [x, y, z]
      · have hlen : (devs z.fBody).length ≤ 16 := boardFault_len (fr := wordAt x.fBody 0) (cp := wordAt y.fBody 0) (by
          cases hf : boardFault (wordAt x.fBody 0) (wordAt y.fBody 0) (devs z.fBody) != 0 with
          | false => rfl
          | true => unfold tables at ht; rw [hf] at ht; cases ht)
        rw [devs_length] at hlen
        rw [decide_eq_true ht, decide_eq_true (show z.fBody.size ≤ 64 by omega)]
        simp only [bx, by', Bool.and_self, cond_true, Bool.not_true, cond_false]
      · rw [decide_eq_false ht]
        simp only [Bool.and_false]
        rfl
    · have hj : (!(tblOk x && (tblOk y && tblOk z)) || (!(x.fBody.size == 4) || !(y.fBody.size == 4))) = true := by
        cases h1 : (tblOk x && (tblOk y && tblOk z)) with
        | false => rfl
        | true =>
          simp only [Bool.not_true, Bool.false_or, Bool.or_eq_true, Bool.not_eq_true', beq_eq_false_iff_ne, ne_eq]
          by_cases h2 : x.fBody.size = 4
          · exact .inr fun h3 => hg ⟨h1, h2, h3⟩
          · exact .inl h2
      rw [hj]
      have hb : ((x.fBody.size == 4) && ((y.fBody.size == 4) && (decide (z.fBody.size ≤ 64) && decide (tables (wordAt x.fBody 0) (wordAt y.fBody 0) (devs z.fBody) = [x, y, z])))) = false := by
        rw [← Bool.not_eq_true]
        intro hc
        simp only [Bool.and_eq_true, beq_iff_eq, decide_eq_true_eq] at hc
        have ht := hc.2.2.2
        refine hg ⟨?_, hc.1, hc.2.1⟩
        have hall := tables_ok (fr := wordAt x.fBody 0) (cp := wordAt y.fBody 0) (l := devs z.fBody)
        rw [ht] at hall
        rw [hall x (by simp), hall y (by simp), hall z (by simp)]; rfl
      simp only [hb]
      rfl
  · have h3' : ((l.length : Int) != 3) = true := by simp; omega
    rw [h3']
    unfold boardOf
    split
    · exact absurd rfl h3
    · rfl


structure TRes where
  name : ByteArray
  rev : Int
  body : ByteArray
  code : Int

def tres0 (c : Int) : TRes := ⟨⟨[].toArray⟩, 0, ⟨[].toArray⟩, c⟩

def tableIn (s : ByteArray) (i : Nat) : TRes :=
  cond (!nameOk (s.extract i (i + 4)) || (decide (wordAt s (i + 4) / 65536 < 8) || (decide (wordAt s (i + 4) / 65536 > 208) || (Int.tmod (wordAt s (i + 4) / 65536) 4 != 0)))) (tres0 3)
    (cond (!fitsAt s.size i (wordAt s (i + 4) / 65536)) (tres0 5)
      (cond (byteSum (s.extract i (i + (wordAt s (i + 4) / 65536).toNat)) % 256 != 0) (tres0 10)
        ⟨s.extract i (i + 4), wordAt s (i + 4) / 256 % 256, s.extract (i + 8) (i + (wordAt s (i + 4) / 65536).toNat), 0⟩))

def tableAt (s : ByteArray) (n : Int) : TRes := cond ((Int.tmod n 4 != 0) || !fitsAt s.size n 8) (tres0 5) (tableIn s n.toNat)

def TRes.out (t : TRes) (k : ByteArray → Int → ByteArray → Int → Option R) : Option R := k t.name t.rev t.body t.code

theorem impl_ytableAt_eq {s : ByteArray} {n : Int} (hs : s.size ≤ 65536) (hN : 2 ^ 40 < N) (k : ByteArray → Int → ByteArray → Int → Option R) : g_impl_ytableAt N s n k = (tableAt s n).out k := by
  unfold g_impl_ytableAt tableAt
  cases h1 : (Int.tmod n 4 != 0) with
  | true => rfl
  | false =>
    rw [cond_false, Bool.false_or, impl_yfits_eq]
    cases h2 : fitsAt (s.size : Int) n 8 with
    | false => rfl
    | true =>
      obtain ⟨f1, _, f2⟩ := fits_nat (by omega) h2
      obtain ⟨i, rfl⟩ := Int.eq_ofNat_of_zero_le f1
      obtain ⟨w0, w1⟩ := wordAt_bound s (i + 4)
      have e4 : IntKind.wrap .i64 ((i : Int) + 4) = ((i + 4 : Nat) : Int) := by rw [w64 (by omega) (by omega)]; omega
      have e8 : IntKind.wrap .i64 ((i : Int) + 8) = ((i + 8 : Nat) : Int) := by rw [w64 (by omega) (by omega)]; omega
      rw [Int.toNat_natCast]
      have hx : (s.extract i (i + 4)).size ≤ 2 ^ 40 := by rw [ByteArray.size_extract]; omega
      rw [Bool.not_true, cond_false, e4, rng3 (show i ≤ i + 4 by omega) (show i + 4 ≤ s.size by omega), cond_true, impl_ywordAt_eq N (show i + 4 + 4 ≤ s.size by omega) (show s.size ≤ 2 ^ 60 by omega), impl_ywordAt_eq N (show i + 4 + 4 ≤ s.size by omega) (show s.size ≤ 2 ^ 60 by omega), Int.toNat_natCast, impl_ytableName_eq N hx hN, fdiv_lit _ (show (0 : Int) ≤ 65536 by omega), fdiv_lit _ (show (0 : Int) ≤ 256 by omega)]
      unfold tableIn
      cases h3 : nameOk (s.extract i (i + 4)) with
      | false => rfl
      | true =>
        rw [Bool.not_true, cond_false, Bool.false_or]
        cases h4 : decide (wordAt s (i + 4) / 65536 < 8) with
        | true => rfl
        | false =>
          rw [cond_false, Bool.false_or]
          cases h5 : decide (wordAt s (i + 4) / 65536 > 208) with
          | true => rfl
          | false =>
            rw [cond_false, Bool.false_or]
            cases h6 : (Int.tmod (wordAt s (i + 4) / 65536) 4 != 0) with
            | true => rfl
            | false =>
              rw [cond_false, cond_false, impl_yfits_eq]
              cases h7 : fitsAt (s.size : Int) (i : Int) (wordAt s (i + 4) / 65536) with
              | false => rfl
              | true =>
                obtain ⟨_, g1, g2⟩ := fits_nat (by omega) h7
                have h4 := of_decide_eq_false h4
                obtain ⟨m, hm⟩ := Int.eq_ofNat_of_zero_le g1
                have em : IntKind.wrap .i64 ((i : Int) + (m : Int)) = ((i + m : Nat) : Int) := by rw [w64 (by omega) (by omega)]; omega
                have hy : (s.extract i (i + m)).size ≤ 2 ^ 40 := by rw [ByteArray.size_extract]; omega
                rw [hm] at g2 h4 ⊢
                rw [Bool.not_true, cond_false, em, e8, rng3 (show i ≤ i + m by omega) (show i + m ≤ s.size by omega), rng3 (show i + 8 ≤ i + m by omega) (show i + m ≤ s.size by omega), cond_true, cond_true, Int.toNat_natCast, Int.toNat_natCast, impl_ybyteSum_eq N hy hN, and255, cond_false, Int.toNat_natCast]
                cases (byteSum (s.extract i (i + m)) % 256 != 0) <;> rfl

def tbl (t : TRes) : FirmTable := ⟨t.name, t.rev, t.body⟩

def readK (s : ByteArray) : Nat → Nat → (Int → Option R) → (List FirmTable → Option R) → Option R
  | _, 0, _, kN => kN []
  | a, d + 1, kR, kN => cond ((tableAt s (wordAt s a)).code != 0) (kR (tableAt s (wordAt s a)).code) (readK s (a + 4) d kR (fun L => kN (tbl (tableAt s (wordAt s a)) :: L)))

theorem readK_succ (s : ByteArray) (a d : Nat) (kR : Int → Option R) (kN : List FirmTable → Option R) : readK s a (d + 1) kR kN = cond ((tableAt s (wordAt s a)).code != 0) (kR (tableAt s (wordAt s a)).code) (readK s (a + 4) d kR (fun L => kN (tbl (tableAt s (wordAt s a)) :: L))) := rfl

theorem cond_congr {α : Type} {c : Bool} {a a' b b' : α} (h1 : a = a') (h2 : b = b') : cond c a b = cond c a' b' := by rw [h1, h2]

theorem impl_ReadTables_go {s : ByteArray} {n : Nat} {m : Nat} (hs : s.size ≤ 65536) (hn : n + 12 + 4 * m ≤ s.size) (hm : m ≤ 10) (hN : 2 ^ 40 < N) (n6 n7 : Int) (b5 : Bool) (l0 : List FirmTable) : ∀ (d f i : Nat) (b : Bool) (l : List FirmTable), i + d = m → d < f → l.length ≤ i →
    ∃ b', ∀ (kR : Int → Bool → List FirmTable → Option R) (kR' : Int → Option R) (kN : Bool → List FirmTable → Option R), (∀ c b l, kR c b l = kR' c) →
      l_impl_ReadTables_0 N s (n : Int) (m : Int) n6 b5 l0 n7 kR kN f (i : Int) b l = readK s (n + 8 + 4 * i) d kR' (fun L => kN b' (l ++ L)) := by
  intro d
  induction d with
  | zero =>
    intro f i b l hi hf hl
    obtain ⟨f, rfl⟩ : ∃ j, f = j + 1 := ⟨f - 1, by omega⟩
    refine ⟨b, fun kR kR' kN hR => ?_⟩
    rw [l_impl_ReadTables_0, s_impl_ReadTables_0, decide_eq_false (show ¬ (i : Int) < (m : Int) by omega), cond_false, readK, List.append_nil]
  | succ d ih =>
    intro f i b l hi hf hl
    obtain ⟨f, rfl⟩ : ∃ j, f = j + 1 := ⟨f - 1, by omega⟩
    have e1 : IntKind.wrap .i64 (IntKind.wrap .i64 ((n : Int) + 8) + IntKind.wrap .i64 (4 * (i : Int))) = ((n + 8 + 4 * i : Nat) : Int) := by
      rw [w64 (n := (n : Int) + 8) (by omega) (by omega), w64 (n := 4 * (i : Int)) (by omega) (by omega), w64 (by omega) (by omega)]; omega
    have e2 : IntKind.wrap .i64 ((i : Int) + 1) = ((i + 1 : Nat) : Int) := by rw [w64 (by omega) (by omega)]; omega
    have hw := fun k => impl_ywordAt_eq N (R := R) (show n + 8 + 4 * i + 4 ≤ s.size by omega) (show s.size ≤ 2 ^ 60 by omega) k
    obtain ⟨T, hT⟩ : ∃ T, tableAt s (wordAt s (n + 8 + 4 * i)) = T := ⟨_, rfl⟩
    have ht := fun k => impl_ytableAt_eq N (R := R) (s := s) (n := wordAt s (n + 8 + 4 * i)) hs hN k
    rw [hT] at ht
    obtain ⟨b', h⟩ := ih f (i + 1) (cond (Nat.beq 1 0) b false) (l ++ [tbl T]) (by omega) (by omega) (by rw [List.length_append, List.length_singleton]; omega)
    refine ⟨b', fun kR kR' kN hR => ?_⟩
    have h := h kR kR' kN hR
    rw [l_impl_ReadTables_0, s_impl_ReadTables_0, decide_eq_true (show (i : Int) < (m : Int) by omega), cond_true, e1, hw, ht, readK_succ, hT, TRes.out, List.length_singleton, room (show (l.length + 1) * 40 ≤ 2 ^ 47 by omega) (by omega), cond_true, e2]
    refine cond_congr (hR _ _ _) ?_
    rw [show n + 8 + 4 * (i + 1) = n + 8 + 4 * i + 4 by omega] at h
    refine h.trans ?_
    congr 1
    funext L
    rw [List.append_assoc]
    rfl

theorem fits_dec {m i : Nat} {t : Int} (hm : m ≤ 2 ^ 60) (hi : i ≤ 2 ^ 60) (h0 : 0 ≤ t) : fitsAt (m : Int) (i : Int) t = decide ((i : Int) + t ≤ (m : Int)) := by
  unfold fitsAt
  rw [w64 (by omega) (by omega), decide_eq_true (show (i : Int) ≥ 0 by omega), decide_eq_true (show t ≥ 0 by omega), Bool.true_and, Bool.true_and, ← Bool.decide_and]
  exact decide_eq_decide.2 (by omega)

def firm : ByteArray := ⟨[(70 : UInt8), (73 : UInt8), (82 : UInt8), (77 : UInt8)].toArray⟩

def rtBad1 (s : ByteArray) (n : Int) : Bool := !memOk s || ((Int.tmod n 4 != 0) || !(decide (n ≥ 0) && decide (n ≤ (s.size : Int) - 1)))

def rtBad3 (s : ByteArray) (i : Nat) : Bool := !decide ((i : Int) + 12 ≤ (s.size : Int)) || (!decide (s.extract i (i + 4) = firm) || (decide (wordAt s (i + 4) > 10) || !decide ((i : Int) + (12 + 4 * wordAt s (i + 4)) ≤ (s.size : Int))))

theorem test3 (a b c : Bool) (K : Bool → Option R) : (oK (cond (!a) (some true) (cond b (some true) (some (!c)))) K) = K (!a || (b || !c)) := by cases a <;> cases b <;> rfl

theorem impl_ReadTables_head {s : ByteArray} {n : Int} (hN : 2 ^ 40 < N) (h1 : ¬ (s.size : Int) > 65536) (hb : rtBad1 s n = false) {i : Nat} (hi : n = (i : Int)) (hi4 : i + 4 ≤ s.size) (k : Int → Bool → List FirmTable → Option R) :
    g_impl_ReadTables N s n k = cond (rtBad3 s i) (k 3 true []) (g_impl_ywordSum N (s.extract i (i + 12 + 4 * (wordAt s (i + 4)).toNat)) fun n2 => cond (n2 != 0) (k 10 true []) (c_impl_ReadTables_0 N s i (wordAt s (i + 4)) 0 true [] 0 0 true [] (fun n11 _ _ => k n11 true []) (fun b8 l3 => k 0 b8 l3))) := by
  subst hi
  have hb' := hb
  unfold rtBad1 at hb'
  have e4 : IntKind.wrap .i64 ((i : Int) + 4) = ((i + 4 : Nat) : Int) := by rw [w64 (by omega) (by omega)]; omega
  have f8 := fits_dec (m := s.size) (i := i) (t := 8) (by omega) (by omega) (by omega)
  rw [g_impl_ReadTables, ybig_eq N hN, decide_eq_false h1, cond_false, impl_ymemOk_eq, impl_yin_eq, w64 (n := (s.size : Int) - 1) (by omega) (by omega)]
  change (oK (cond (!memOk s) (some true) (cond (Int.tmod (i : Int) 4 != 0) (some true) (some (!(decide ((i : Int) ≥ 0) && decide ((i : Int) ≤ (s.size : Int) - 1)))))) _) = _
  rw [test3, hb', cond_false, e4, rng3 (show i ≤ i + 4 by omega) hi4, cond_true, Int.toNat_natCast, Int.toNat_natCast, impl_yfits_eq, f8]
  change (oK (cond (!decide (s.extract i (i + 4) = firm)) _ _) _) = _
  by_cases hF : s.extract i (i + 4) = firm
  case neg =>
    have : rtBad3 s i = true := by unfold rtBad3; rw [decide_eq_false hF, Bool.not_false, Bool.true_or, Bool.or_true]
    rw [this, decide_eq_false hF, cond_true]
    rfl
  have hF' := decide_eq_true hF
  rw [hF', Bool.not_true, cond_false, oK_some_eq]
  by_cases h8 : (i : Int) + 8 ≤ (s.size : Int)
  case neg =>
    have : rtBad3 s i = true := by unfold rtBad3; rw [decide_eq_false (show ¬ (i : Int) + 12 ≤ (s.size : Int) by omega), Bool.not_false, Bool.true_or]
    rw [this, cond_true, decide_eq_false h8, Bool.not_false, cond_true]
  obtain ⟨w0, w1⟩ := wordAt_bound s (i + 4)
  rw [decide_eq_true h8, Bool.not_true, cond_false, impl_ywordAt_eq N (show i + 4 + 4 ≤ s.size by omega) (show s.size ≤ 2 ^ 60 by omega)]
  by_cases h10 : wordAt s (i + 4) > 10
  · have : rtBad3 s i = true := by unfold rtBad3; rw [decide_eq_true h10, Bool.true_or, Bool.or_true, Bool.or_true]
    rw [this, cond_true, decide_eq_true h10, cond_true, oK_some_eq, cond_true]
  have em : IntKind.wrap .i64 (12 + IntKind.wrap .i64 (4 * wordAt s (i + 4))) = 12 + 4 * wordAt s (i + 4) := by rw [w64 (n := 4 * wordAt s (i + 4)) (by omega) (by omega), w64 (by omega) (by omega)]
  have fm := fits_dec (m := s.size) (i := i) (t := 12 + 4 * wordAt s (i + 4)) (by omega) (by omega) (by omega)
  rw [decide_eq_false h10, cond_false, em, impl_yfits_eq, fm, oK_some_eq]
  by_cases hfit : (i : Int) + (12 + 4 * wordAt s (i + 4)) ≤ (s.size : Int)
  case neg =>
    have : rtBad3 s i = true := by unfold rtBad3; rw [decide_eq_false hfit, Bool.not_false, Bool.or_true, Bool.or_true, Bool.or_true]
    rw [this, cond_true, decide_eq_false hfit, Bool.not_false, cond_true]
  have hB : rtBad3 s i = false := by
    unfold rtBad3
    rw [hF', decide_eq_false h10, decide_eq_true hfit, decide_eq_true (show (i : Int) + 12 ≤ (s.size : Int) by omega)]; rfl
  have e5 : IntKind.wrap .i64 (IntKind.wrap .i64 ((i : Int) + 12) + IntKind.wrap .i64 (4 * wordAt s (i + 4))) = ((i + 12 + 4 * (wordAt s (i + 4)).toNat : Nat) : Int) := by
    rw [w64 (n := (i : Int) + 12) (by omega) (by omega), w64 (n := 4 * wordAt s (i + 4)) (by omega) (by omega), w64 (by omega) (by omega)]; omega
  rw [hB, cond_false, decide_eq_true hfit, Bool.not_true, cond_false, e5, rng3 (show i ≤ i + 12 + 4 * (wordAt s (i + 4)).toNat by omega) (by omega), cond_true, Int.toNat_natCast]

theorem foldl_sum : ∀ (l : List Int) (a : Int), l.foldl (fun a x => a + x) a = a + l.sum
  | [], a => by simp
  | x :: l, a => by rw [List.foldl_cons, foldl_sum l, List.sum_cons]; omega

theorem byteSum_eq (s : ByteArray) : byteSum s = (ofBytes s).sum := by
  have h := foldl_atD (ofBytes s) (fun (a : Int) x => a + x) 0
  rw [foldl_sum, ofBytes_length] at h
  unfold byteSum
  rw [← Int.zero_add (ofBytes s).sum, ← h]
  refine foldl_cong _ _ fun a i hi => ?_
  rw [atD_some (nth_ofBytes (List.mem_range.1 hi))]

theorem byteSum_append (s t : ByteArray) : byteSum (s ++ t) = byteSum s + byteSum t := by
  rw [byteSum_eq, byteSum_eq, byteSum_eq, ofBytes_append, List.sum_append]

theorem byteSum_putWord {w c : Int} (hw : w % 256 = 0) (h0 : 0 ≤ c) (h1 : c < 256) (hb : 0 ≤ w) (hb2 : w < 4294967296 - 256) : byteSum (putWord (w + c)) = byteSum (putWord w) + c := by
  rw [byteSum_eq, byteSum_eq, ofBytes_putWord, ofBytes_putWord]
  simp only [List.sum_cons, List.sum_nil]
  omega

theorem wordAt_putWord (v : Int) : wordAt (putWord v) 0 = word v := by
  have h : ∀ i, i < 4 → ∀ x, nth [v % 256, v / 256 % 256, v / 65536 % 256, v / 16777216 % 256] i = some x → bt (putWord v) i = x := fun i hi x hx => by
    have h1 := nth_ofBytes (s := putWord v) (i := i) (by rw [putWord_size]; exact hi)
    rw [ofBytes_putWord, hx] at h1
    exact (Option.some.inj h1).symm
  unfold wordAt
  rw [h 0 (by omega) _ rfl, h 1 (by omega) _ rfl, h 2 (by omega) _ rfl, h 3 (by omega) _ rfl]
  unfold word
  omega

theorem wordAt_left {s t : ByteArray} {i : Nat} (h : i + 4 ≤ s.size) : wordAt (s ++ t) i = wordAt s i := by
  unfold wordAt
  rw [bt_append_left (by omega), bt_append_left (by omega), bt_append_left (by omega), bt_append_left (by omega)]

theorem wordAt_right (s t : ByteArray) (i : Nat) : wordAt (s ++ t) (s.size + i) = wordAt t i := by
  unfold wordAt
  rw [bt_append_right, show s.size + i + 1 = s.size + (i + 1) by omega, show s.size + i + 2 = s.size + (i + 2) by omega, show s.size + i + 3 = s.size + (i + 3) by omega, bt_append_right, bt_append_right, bt_append_right]

theorem wordSum_word {s : ByteArray} (v : Int) (h : s.size % 4 = 0) : wordSum (s ++ putWord v) = wordSum s + word v := by
  unfold wordSum
  rw [ByteArray.size_append, putWord_size, show (s.size + 4) / 4 = s.size / 4 + 1 by omega, List.range_succ, List.foldl_append, List.foldl_cons, List.foldl_nil]
  have h1 : 4 * (s.size / 4) = s.size := by omega
  have h2 := wordAt_right s (putWord v) 0
  rw [Nat.add_zero, wordAt_putWord] at h2
  rw [h1, h2]
  congr 1
  refine foldl_cong _ _ fun a j hj => ?_
  have := List.mem_range.1 hj
  rw [wordAt_left (by omega)]

def offW (base : Int) : Nat → List FirmTable → ByteArray
  | _, [] => ⟨[].toArray⟩
  | c, x :: l => putWord (IntKind.wrap .i64 (base + (c : Int))) ++ offW base (c + (tblText x).size) l

theorem tblRows_go (base : Int) : ∀ (l : List FirmTable) (a b : ByteArray), l.foldl (tblStep base) (a, b) = (a ++ offW base b.size l, b ++ catB (l.map tblText))
  | [], a, b => by
    show (a, b) = (a ++ ⟨[].toArray⟩, b ++ ⟨[].toArray⟩)
    rw [ba_append_empty, ba_append_empty]
  | x :: l, a, b => by
    rw [List.foldl_cons]
    show l.foldl (tblStep base) (a ++ putWord (IntKind.wrap .i64 (base + (b.size : Int))), b ++ tblText x) = _
    rw [tblRows_go base l, ByteArray.size_append, List.map_cons]
    simp only [offW, catB, ByteArray.append_assoc]

theorem offW_size (base : Int) : ∀ (l : List FirmTable) (c : Nat), (offW base c l).size = 4 * l.length
  | [], _ => rfl
  | x :: l, c => by rw [offW, ByteArray.size_append, putWord_size, offW_size base l, List.length_cons]; omega

/-- All that is put. -/
def tblAll (n : Int) (l : List FirmTable) : ByteArray := ((tblRows n l).1 ++ putWord (-(wordSum (tblRows n l).1))) ++ (tblRows n l).2

theorem tblRows_eq (n : Int) (l : List FirmTable) : tblRows n l = ((firm ++ putWord l.length) ++ offW (tblBase n l.length) 0 l, catB (l.map tblText)) := by
  unfold tblRows
  rw [tblRows_go]
  show (_, (⟨[].toArray⟩ : ByteArray) ++ catB (l.map tblText)) = _
  rw [ba_empty_append]
  rfl

theorem catB_tbl_size : ∀ {l : List FirmTable}, (∀ x ∈ l, tblOk x = true) → (catB (l.map tblText)).size ≤ 208 * l.length ∧ (catB (l.map tblText)).size % 4 = 0
  | [], _ => ⟨Nat.le_refl 0, rfl⟩
  | x :: l, h => by
    have h1 := tblText_size_ok (h x (List.mem_cons_self ..))
    have h2 := tblOk_facts (h x (List.mem_cons_self ..))
    obtain ⟨i1, i2⟩ := catB_tbl_size (l := l) fun y hy => h y (List.mem_cons_of_mem _ hy)
    simp only [List.map_cons, catB, ByteArray.size_append, List.length_cons]
    omega

theorem splice_at {s w : ByteArray} {i j : Nat} (hi : i ≤ s.size) (hj : j < w.size) : bt (splice s i w) (i + j) = bt w j := by
  have e : (s.extract 0 i).size = i := by rw [ByteArray.size_extract]; omega
  unfold splice
  rw [ByteArray.append_assoc]
  have := bt_append_right (s := s.extract 0 i) (t := w ++ s.extract (i + w.size) s.size) j
  rw [e] at this
  rw [this, bt_append_left hj]

theorem splice_size2 {s w : ByteArray} {i : Nat} (h : i + w.size ≤ s.size) : (splice s i w).size = s.size := by
  unfold splice
  rw [ByteArray.size_append, ByteArray.size_append, ByteArray.size_extract, ByteArray.size_extract]; omega

theorem splice_word {s w : ByteArray} {i j : Nat} (hi : i ≤ s.size) (hj : j + 4 ≤ w.size) : wordAt (splice s i w) (i + j) = wordAt w j := by
  unfold wordAt
  rw [splice_at hi (by omega), show i + j + 1 = i + (j + 1) by omega, show i + j + 2 = i + (j + 2) by omega, show i + j + 3 = i + (j + 3) by omega, splice_at hi (by omega), splice_at hi (by omega), splice_at hi (by omega)]

theorem splice_ext {s w : ByteArray} {i a b : Nat} (h : i + w.size ≤ s.size) (hb : b ≤ w.size) : (splice s i w).extract (i + a) (i + b) = w.extract a b := by
  have hs := splice_size2 h
  refine bytes_ext (by rw [ByteArray.size_extract, ByteArray.size_extract, hs]; omega) fun j hj => ?_
  rw [ByteArray.size_extract, hs] at hj
  rw [bt_extract (by omega), bt_extract (by omega), show i + a + j = i + (a + j) by omega, splice_at (by omega) (by omega)]

theorem extract_mid {a b c : ByteArray} {x y : Nat} (hy : y ≤ b.size) : ((a ++ b) ++ c).extract (a.size + x) (a.size + y) = b.extract x y := by
  refine bytes_ext (by rw [ByteArray.size_extract, ByteArray.size_extract, ByteArray.size_append, ByteArray.size_append]; omega) fun j hj => ?_
  rw [ByteArray.size_extract, ByteArray.size_append, ByteArray.size_append] at hj
  rw [bt_extract (by omega), bt_extract (by omega), bt_append_left (by rw [ByteArray.size_append]; omega), show a.size + x + j = a.size + (x + j) by omega, bt_append_right]

theorem extract_self (s : ByteArray) {n : Nat} (h : n = s.size) : s.extract 0 n = s := by
  subst h
  refine bytes_ext (by rw [ByteArray.size_extract]; omega) fun j hj => ?_
  rw [ByteArray.size_extract] at hj
  rw [bt_extract (by omega), Nat.zero_add]

/-- A table is read at the place where its text stands. -/
theorem tableAt_text {t : ByteArray} {x : FirmTable} {o : Nat} (hx : tblOk x = true) (ht : t.size ≤ 65536) (ho : o % 4 = 0) (hle : o + (tblText x).size ≤ t.size)
    (hbt : ∀ j, j < (tblText x).size → bt t (o + j) = bt (tblText x) j) : tableAt t (o : Int) = ⟨x.fName, x.fRev, x.fBody, 0⟩ := by
  obtain ⟨q1, q2, q3, q4, q5⟩ := tblOk_facts hx
  have hsz := tblText_size_ok hx
  have hext : ∀ a b, b ≤ (tblText x).size → t.extract (o + a) (o + b) = (tblText x).extract a b := fun a b hb => by
    refine bytes_ext (by rw [ByteArray.size_extract, ByteArray.size_extract]; omega) fun j hj => ?_
    rw [ByteArray.size_extract] at hj
    rw [bt_extract (by omega), bt_extract (by omega), show o + a + j = o + (a + j) by omega, hbt _ (by omega)]
  obtain ⟨bs, hbs⟩ : ∃ bs, byteSum (x.fName ++ putWord ((x.fBody.size + 8) * 65536 + x.fRev * 256) ++ x.fBody) = bs := ⟨_, rfl⟩
  obtain ⟨w, hw⟩ : ∃ w : Int, ((x.fBody.size : Int) + 8) * 65536 + x.fRev * 256 = w := ⟨_, rfl⟩
  have htx : tblText x = (x.fName ++ putWord (w + (-bs) % 256)) ++ x.fBody := by unfold tblText; rw [hbs, hw]
  have hname : (tblText x).extract 0 4 = x.fName := by
    rw [htx, ByteArray.append_assoc]; exact extract_append_left q1.symm
  have hbody : (tblText x).extract 8 (8 + x.fBody.size) = x.fBody := by
    have h8 : (x.fName ++ putWord (w + (-bs) % 256)).size = 8 := by rw [ByteArray.size_append, putWord_size, q1]
    have := extract_mid (a := x.fName ++ putWord (w + (-bs) % 256)) (b := x.fBody) (c := ⟨[].toArray⟩) (x := 0) (y := x.fBody.size) (Nat.le_refl _)
    rw [ba_append_empty, h8, extract_self _ rfl] at this
    rw [htx]; exact this
  have hword : wordAt t (o + 4) = w + (-bs) % 256 := by
    have e : wordAt t (o + 4) = wordAt (tblText x) 4 := by
      unfold wordAt
      rw [hbt 4 (by omega), show o + 4 + 1 = o + (4 + 1) by omega, show o + 4 + 2 = o + (4 + 2) by omega, show o + 4 + 3 = o + (4 + 3) by omega, hbt _ (by omega), hbt _ (by omega), hbt _ (by omega)]
    rw [e, htx, wordAt_left (by rw [ByteArray.size_append, putWord_size]; omega)]
    have := wordAt_right x.fName (putWord (w + (-bs) % 256)) 0
    rw [q1, wordAt_putWord] at this
    rw [this]
    unfold word
    omega
  have hsum : byteSum (tblText x) % 256 = 0 := by
    rw [htx, byteSum_append, byteSum_append, byteSum_putWord (w := w) (by omega) (by omega) (by omega) (by omega) (by omega)]
    rw [hw, byteSum_append, byteSum_append] at hbs
    omega
  have hm : (w + (-bs) % 256) / 65536 = ((8 + x.fBody.size : Nat) : Int) := by omega
  have hrev : (w + (-bs) % 256) / 256 % 256 = x.fRev := by omega
  have hn : nameOk x.fName = true := by unfold tblOk at hx; simp only [Bool.and_eq_true] at hx; exact hx.1
  unfold tableAt
  have t0 : (Int.tmod (o : Int) 4 != 0) = false := by rw [tmod_nn (by omega)]; simp; omega
  rw [t0, Bool.false_or, fits_dec (by omega) (by omega) (by omega), decide_eq_true (by omega), Bool.not_true, cond_false, Int.toNat_natCast]
  unfold tableIn
  have e0 := hext 0 4 (by omega)
  rw [Nat.add_zero, hname] at e0
  have e1 := hext 0 (8 + x.fBody.size) (by omega)
  rw [Nat.add_zero, extract_self _ hsz.symm] at e1
  rw [e0, hn, hword, hm, hrev, Int.toNat_natCast, fits_dec (by omega) (by omega) (by omega), e1, hsum, hext 8 (8 + x.fBody.size) (by omega), hbody]
  rw [decide_eq_false (show ¬ ((8 + x.fBody.size : Nat) : Int) < 8 by omega), decide_eq_false (show ¬ ((8 + x.fBody.size : Nat) : Int) > 208 by omega), decide_eq_true (show (o : Int) + ((8 + x.fBody.size : Nat) : Int) ≤ (t.size : Int) by omega)]
  have t1 : (Int.tmod ((8 + x.fBody.size : Nat) : Int) 4 != 0) = false := by rw [tmod_nn (by omega)]; simp; omega
  rw [t1]
  rfl


theorem offW_at (base : Int) : ∀ (pre : List FirmTable) (x : FirmTable) (suf : List FirmTable) (c : Nat), wordAt (offW base c (pre ++ x :: suf)) (4 * pre.length) = word (IntKind.wrap .i64 (base + ((c + (catB (pre.map tblText)).size : Nat) : Int)))
  | [], x, suf, c => by
    show wordAt (putWord (IntKind.wrap .i64 (base + (c : Int))) ++ offW base (c + (tblText x).size) suf) 0 = word (IntKind.wrap .i64 (base + ((c + (catB []).size : Nat) : Int)))
    rw [wordAt_left (by rw [putWord_size]; omega), wordAt_putWord]
    rfl
  | y :: pre, x, suf, c => by
    show wordAt (putWord (IntKind.wrap .i64 (base + (c : Int))) ++ offW base (c + (tblText y).size) (pre ++ x :: suf)) (4 * (pre.length + 1)) = _
    have := wordAt_right (putWord (IntKind.wrap .i64 (base + (c : Int)))) (offW base (c + (tblText y).size) (pre ++ x :: suf)) (4 * pre.length)
    rw [putWord_size] at this
    rw [show 4 * (pre.length + 1) = 4 + 4 * pre.length by omega, this, offW_at base pre x suf]
    congr 3
    simp only [List.map_cons, catB, ByteArray.size_append]
    omega

structure PutAt (t : ByteArray) (i : Nat) (l : List FirmTable) : Prop where
  le : t.size ≤ 65536
  al : i % 4 = 0
  off : ∀ (pre : List FirmTable) (x : FirmTable) (suf : List FirmTable), l = pre ++ x :: suf → wordAt t (i + 8 + 4 * pre.length) = ((i + 12 + 4 * l.length + (catB (pre.map tblText)).size : Nat) : Int)
  body : ∀ j, j < (catB (l.map tblText)).size → bt t (i + 12 + 4 * l.length + j) = bt (catB (l.map tblText)) j
  fit : i + 12 + 4 * l.length + (catB (l.map tblText)).size ≤ t.size
  good : ∀ x ∈ l, tblOk x = true

theorem readK_put {t : ByteArray} {i : Nat} {l : List FirmTable} (h : PutAt t i l) : ∀ (suf pre : List FirmTable), l = pre ++ suf → ∀ (kR : Int → Option R) (kN : List FirmTable → Option R), readK t (i + 8 + 4 * pre.length) suf.length kR kN = kN suf
  | [], pre, _, kR, kN => rfl
  | x :: suf, pre, e, kR, kN => by
    have hx : tblOk x = true := h.good x (by rw [e]; simp)
    have hpre : ∀ y ∈ pre, tblOk y = true := fun y hy => h.good y (by rw [e]; simp [hy])
    obtain ⟨_, c4⟩ := catB_tbl_size hpre
    have hoff := h.off pre x suf e
    have hcat : catB (l.map tblText) = catB (pre.map tblText) ++ (tblText x ++ catB (suf.map tblText)) := by
      rw [e, List.map_append, catB_append, List.map_cons]
      rfl
    have hsz : (catB (l.map tblText)).size = (catB (pre.map tblText)).size + ((tblText x).size + (catB (suf.map tblText)).size) := by rw [hcat, ByteArray.size_append, ByteArray.size_append]
    have hfit := h.fit
    have hal := h.al
    have ht := tableAt_text (t := t) (x := x) (o := i + 12 + 4 * l.length + (catB (pre.map tblText)).size) hx h.le (by omega) (by omega) (fun j hj => by
      have := h.body ((catB (pre.map tblText)).size + j) (by omega)
      rw [hcat, bt_append_right, bt_append_left hj] at this
      rw [← this]; congr 1; omega)
    rw [List.length_cons, readK_succ, hoff, ht]
    have ih := readK_put h suf (pre ++ [x]) (by rw [e, List.append_assoc]; rfl) kR (fun L => kN (x :: L))
    rw [List.length_append, List.length_singleton, show i + 8 + 4 * (pre.length + 1) = i + 8 + 4 * pre.length + 4 by omega] at ih
    exact ih

theorem put_facts {s : ByteArray} {n : Int} {l : List FirmTable} (h : putTables s n l ≠ ⟨[].toArray⟩) :
    memOk s = true ∧ l.length ≤ 10 ∧ (∀ x ∈ l, tblOk x = true) ∧ ∃ i : Nat, n = (i : Int) ∧ i % 4 = 0 ∧ i + (tblAll n l).size ≤ s.size ∧ putTables s n l = splice s i (tblAll n l) := by
  unfold putTables at h ⊢
  cases hc : (memOk s && (!decide (n < 0) && (!(Int.tmod n 4 != 0) && (!decide ((l.length : Int) > 10) && !(l.any fun x => !tblOk x))))) with
  | false => rw [hc] at h; exact absurd rfl h
  | true =>
    rw [hc, cond_true] at h
    have hc2 := hc
    simp only [Bool.and_eq_true, Bool.not_eq_true', decide_eq_false_iff_not] at hc2
    obtain ⟨g1, g2, g3, g4, g5⟩ := hc2
    obtain ⟨i, rfl⟩ := Int.eq_ofNat_of_zero_le (show 0 ≤ n by omega)
    have hm4 : Int.tmod (i : Int) 4 = 0 := by simpa using g3
    rw [tmod_nn (by omega)] at hm4
    have hsz : s.size ≤ 65536 := by
      have := g1
      unfold memOk at this
      simp only [Bool.and_eq_true, decide_eq_true_eq] at this
      omega
    change cond (fitsAt (s.size : Int) (i : Int) ((tblAll (i : Int) l).size : Int)) (splice s (i : Int).toNat (tblAll (i : Int) l)) ⟨[].toArray⟩ ≠ _ at h
    cases hf : fitsAt (s.size : Int) (i : Int) ((tblAll (i : Int) l).size : Int) with
    | false => rw [hf] at h; exact absurd rfl h
    | true =>
      obtain ⟨f1, f2, f3⟩ := fits_nat (by omega) hf
      refine ⟨g1, by omega, fun x hx => ?_, i, rfl, by omega, by omega, ?_⟩
      · have := List.any_eq_false.1 g5 x hx
        simpa using this
      · rw [cond_true]
        show cond (fitsAt (s.size : Int) (i : Int) ((tblAll (i : Int) l).size : Int)) (splice s (i : Int).toNat (tblAll (i : Int) l)) ⟨[].toArray⟩ = _
        rw [hf, cond_true, Int.toNat_natCast]

theorem tblAll_facts (i : Nat) (l : List FirmTable) (hi : i ≤ 65536) (hl : l.length ≤ 10) (hx : ∀ x ∈ l, tblOk x = true) :
    (tblAll (i : Int) l).size = 12 + 4 * l.length + (catB (l.map tblText)).size ∧ (tblAll (i : Int) l).extract 0 4 = firm ∧ wordAt (tblAll (i : Int) l) 4 = (l.length : Int) ∧
    (∀ pre x suf, l = pre ++ x :: suf → wordAt (tblAll (i : Int) l) (8 + 4 * pre.length) = ((i + 12 + 4 * l.length + (catB (pre.map tblText)).size : Nat) : Int)) ∧
    (∀ j, j < (catB (l.map tblText)).size → bt (tblAll (i : Int) l) (12 + 4 * l.length + j) = bt (catB (l.map tblText)) j) ∧
    word (wordSum ((tblAll (i : Int) l).extract 0 (12 + 4 * l.length))) = 0 := by
  unfold tblAll
  rw [tblRows_eq]
  dsimp only
  have hbase : tblBase (i : Int) l.length = ((i + 12 + 4 * l.length : Nat) : Int) := by
    unfold tblBase
    rw [w64 (n := (i : Int) + 12) (by omega) (by omega), w64 (n := 4 * (l.length : Int)) (by omega) (by omega), w64 (by omega) (by omega)]; omega
  rw [hbase]
  obtain ⟨F, hF⟩ : ∃ F, firm ++ putWord (l.length : Int) ++ offW ((i + 12 + 4 * l.length : Nat) : Int) 0 l = F := ⟨_, rfl⟩
  have h8 : (firm ++ putWord (l.length : Int)).size = 8 := by rw [ByteArray.size_append, putWord_size]; rfl
  have hFs : F.size = 8 + 4 * l.length := by rw [← hF, ByteArray.size_append, h8, offW_size]
  rw [hF]
  have hA : (F ++ putWord (-(wordSum F))).size = 12 + 4 * l.length := by rw [ByteArray.size_append, putWord_size, hFs]; omega
  have hfirm : firm.size = 4 := rfl
  refine ⟨by rw [ByteArray.size_append, hA], ?_, ?_, fun pre x suf e => ?_, fun j hj => ?_, ?_⟩
  · rw [← hF, ByteArray.append_assoc, ByteArray.append_assoc, ByteArray.append_assoc, ByteArray.append_assoc]
    exact extract_append_left rfl
  · rw [wordAt_left (by omega), wordAt_left (by omega), ← hF, wordAt_left (by omega)]
    have := wordAt_right firm (putWord (l.length : Int)) 0
    rw [wordAt_putWord] at this
    rw [show 4 = firm.size + 0 from rfl, this]
    unfold word; omega
  · have hlen : pre.length < l.length := by rw [e]; simp
    rw [wordAt_left (by omega), wordAt_left (by omega), ← hF]
    have := wordAt_right (firm ++ putWord (l.length : Int)) (offW ((i + 12 + 4 * l.length : Nat) : Int) 0 l) (4 * pre.length)
    rw [h8] at this
    rw [this]
    have ho := offW_at ((i + 12 + 4 * l.length : Nat) : Int) pre x suf 0
    rw [← e] at ho
    have hpre : ∀ y ∈ pre, tblOk y = true := fun y hy => hx y (by rw [e]; simp [hy])
    have := (catB_tbl_size hpre).1
    rw [ho, w64 (by omega) (by omega)]
    unfold word; omega
  · have := bt_append_right (s := F ++ putWord (-(wordSum F))) (t := catB (l.map tblText)) j
    rw [hA] at this
    exact this
  · rw [extract_append_left hA.symm, wordSum_word _ (by omega)]
    unfold word; omega

/-- What was put is read. -/
theorem impl_ReadTables_put {s : ByteArray} {n : Int} {l : List FirmTable} (hne : putTables s n l ≠ ⟨[].toArray⟩) (hN : 2 ^ 40 < N) : ∃ b, ∀ k : Int → Bool → List FirmTable → Option R, g_impl_ReadTables N (putTables s n l) n k = k 0 b l := by
  obtain ⟨hm, hl, hx, i, rfl, hi4, hfit, he⟩ := put_facts hne
  have hsz : s.size ≤ 65536 ∧ s.size % 256 = 0 := by
    have := hm
    unfold memOk at this
    simp only [Bool.and_eq_true, decide_eq_true_eq] at this
    have h6 : Int.tmod (s.size : Int) 256 = 0 := by simpa using this.2.2
    rw [tmod_nn (by omega)] at h6
    omega
  obtain ⟨w1, w2, w3, w4, w5, w6⟩ := tblAll_facts i l (by omega) hl hx
  obtain ⟨W, hW⟩ : ∃ W, tblAll (i : Int) l = W := ⟨_, rfl⟩
  rw [hW] at w1 w2 w3 w4 w5 w6 hfit he
  rw [he]
  obtain ⟨t, ht⟩ : ∃ t, splice s i W = t := ⟨_, rfl⟩
  have hts : t.size = s.size := by rw [← ht]; exact splice_size2 hfit
  have hme : memOk t = true := by unfold memOk at hm ⊢; rw [hts]; exact hm
  have x04 : t.extract i (i + 4) = firm := by
    have := splice_ext (s := s) (w := W) (i := i) (a := 0) (b := 4) hfit (by omega)
    rw [ht, Nat.add_zero, w2] at this; exact this
  have x4 : wordAt t (i + 4) = (l.length : Int) := by
    have := splice_word (s := s) (w := W) (i := i) (j := 4) (by omega) (by omega)
    rw [ht, w3] at this; exact this
  have xs : t.extract i (i + 12 + 4 * l.length) = W.extract 0 (12 + 4 * l.length) := by
    have := splice_ext (s := s) (w := W) (i := i) (a := 0) (b := 12 + 4 * l.length) hfit (by omega)
    rw [ht, Nat.add_zero] at this
    rw [← this]; congr 1; omega
  have hput : PutAt t i l := by
    refine ⟨by omega, hi4, fun pre x suf e => ?_, fun j hj => ?_, by omega, hx⟩
    · have hlen : pre.length < l.length := by rw [e]; simp
      have := splice_word (s := s) (w := W) (i := i) (j := 8 + 4 * pre.length) (by omega) (by omega)
      rw [ht, w4 pre x suf e] at this
      rw [← this]; congr 1; omega
    · have := splice_at (s := s) (w := W) (i := i) (j := 12 + 4 * l.length + j) (by omega) (by omega)
      rw [ht, w5 j hj] at this
      rw [← this]; congr 1; omega
  rw [ht]
  have hb1 : rtBad1 t (i : Int) = false := by
    unfold rtBad1
    rw [hme, decide_eq_true (show (i : Int) ≥ 0 by omega), decide_eq_true (show (i : Int) ≤ (t.size : Int) - 1 by omega), tmod_nn (by omega)]
    have : ((i : Int) % 4 != 0) = false := by simp; omega
    rw [this]; rfl
  have hb3 : rtBad3 t i = false := by
    unfold rtBad3
    rw [x04, x4, decide_eq_true (show (i : Int) + 12 ≤ (t.size : Int) by omega), decide_eq_true (show (i : Int) + (12 + 4 * (l.length : Int)) ≤ (t.size : Int) by omega), decide_eq_false (show ¬ (l.length : Int) > 10 by omega), decide_eq_true rfl]
    rfl
  have hxz : (t.extract i (i + 12 + 4 * l.length)).size = 12 + 4 * l.length := by rw [ByteArray.size_extract]; omega
  obtain ⟨b, gI⟩ := impl_ReadTables_go N (R := R) (s := t) (n := i) (m := l.length) (by omega) (by omega) (by omega) hN 0 0 true [] l.length N 0 true [] (by omega) (by omega) (by simp)
  refine ⟨b, fun k => ?_⟩
  rw [impl_ReadTables_head N hN (by omega) hb1 rfl (by omega), hb3, cond_false, x4, Int.toNat_natCast, impl_ywordSum_eq N (by omega) (by omega) hN, xs, w6]
  refine (gI _ (fun c => k c true []) _ (fun _ _ _ => rfl)).trans ?_
  have := readK_put (R := R) hput l [] rfl (fun c => k c true []) (fun L => k 0 b ([] ++ L))
  exact this

theorem put_outside {s : ByteArray} {n : Int} {l : List FirmTable} (hne : putTables s n l ≠ ⟨[].toArray⟩) : ∃ i e : Nat, n = (i : Int) ∧ i ≤ e ∧ e ≤ s.size ∧ (putTables s n l).size = s.size ∧ e = i + (12 + 4 * l.length + (catB (l.map tblText)).size) ∧ s.size ≤ 65536 ∧ l.length ≤ 10 ∧ (∀ x ∈ l, tblOk x = true) ∧
    (putTables s n l).extract 0 i = s.extract 0 i ∧ (putTables s n l).extract e s.size = s.extract e s.size := by
  obtain ⟨hm, hl, hx, i, rfl, hi4, hfit, he⟩ := put_facts hne
  have hsz : s.size ≤ 65536 := by
    have := hm
    unfold memOk at this
    simp only [Bool.and_eq_true, decide_eq_true_eq] at this
    omega
  obtain ⟨w1, _⟩ := tblAll_facts i l (by omega) hl hx
  refine ⟨i, i + (tblAll (i : Int) l).size, rfl, by omega, hfit, by rw [he]; exact splice_size2 hfit, by rw [w1], hsz, hl, hx, ?_, ?_⟩
  · rw [he]
    have e : (s.extract 0 i).size = i := by rw [ByteArray.size_extract]; omega
    unfold splice
    rw [ByteArray.append_assoc]
    exact extract_append_left e.symm
  · rw [he]
    have hs := splice_size2 hfit
    refine bytes_ext (by rw [ByteArray.size_extract, ByteArray.size_extract, hs]) fun j hj => ?_
    rw [ByteArray.size_extract, hs] at hj
    rw [bt_extract (by omega), bt_extract (by omega)]
    have e : (s.extract 0 i ++ tblAll (i : Int) l).size = i + (tblAll (i : Int) l).size := by rw [ByteArray.size_append, ByteArray.size_extract]; omega
    unfold splice
    have := bt_append_right (s := s.extract 0 i ++ tblAll (i : Int) l) (t := s.extract (i + (tblAll (i : Int) l).size) s.size) j
    rw [e] at this
    rw [this, bt_extract (by omega)]


theorem board_go {b1 b2 : Bool} {n19 n20 n21 n22 n23 : Int} {l1 : List Int} {l2 : List Device} (hl : l1.length ≤ 2 ^ 30) : ∀ (d f : Nat) (q p m : Int) (b3 : Bool) (L : List Device), d < f → L.length + d ≤ 100 → (0 ≤ p ∧ p ≤ 2 ^ 40) →
    ∃ (p' m' : Int) (b' : Bool) (L' : List Device), L'.length ≤ 100 ∧ (0 ≤ p' ∧ p' ≤ 2 ^ 40) ∧ ∀ kN : Int → Int → Bool → List Device → Option R, l_spec_l01Src_board_Wr_0 N b1 n19 l1 n20 n21 b2 l2 n22 n23 kN f q (d : Int) p m b3 L = kN p' m' b' L' := by
  intro d
  induction d with
  | zero =>
    intro f q p m b3 L hf hL hp
    obtain ⟨f, rfl⟩ : ∃ j, f = j + 1 := ⟨f - 1, by omega⟩
    refine ⟨p, m, b3, L, by omega, hp, fun kN => ?_⟩
    rw [l_spec_l01Src_board_Wr_0, s_spec_l01Src_board_Wr_0, decide_eq_false (show ¬ ((0 : Nat) : Int) > 0 by omega), cond_false]
  | succ d ih =>
    intro f q p m b3 L hf hL hp
    obtain ⟨f, rfl⟩ : ∃ j, f = j + 1 := ⟨f - 1, by omega⟩
    obtain ⟨v1, p1, m1, _, _, _, hp1, h1⟩ := src_n (R := R) N (n := 5) (b := b1) (m := m) (z := n19) (by omega) hl hp
    obtain ⟨v2, p2, m2, _, _, _, hp2, h2⟩ := src_n (R := R) N (n := 7) (b := b1) (m := m1) (z := n19) (by omega) hl hp1
    obtain ⟨v3, p3, m3, _, _, _, hp3, h3⟩ := src_n (R := R) N (n := 5) (b := b1) (m := m2) (z := n19) (by omega) hl hp2
    have e : IntKind.wrap .i64 (((d + 1 : Nat) : Int) - 1) = ((d : Nat) : Int) := by rw [w64 (by omega) (by omega)]; omega
    obtain ⟨p', m', b', L', f1, f2, f3⟩ := ih f (IntKind.wrap .i64 (IntKind.wrap .i64 (q + 1) + v3)) p3 m3 (cond (Nat.beq 1 0) b3 false) (L ++ [⟨IntKind.wrap .i64 (1 + v1), q, v2⟩]) (by omega) (by rw [List.length_append, List.length_singleton]; omega) hp3
    refine ⟨p', m', b', L', f1, f2, fun kN => ?_⟩
    rw [l_spec_l01Src_board_Wr_0, s_spec_l01Src_board_Wr_0, decide_eq_true (show ((d + 1 : Nat) : Int) > 0 by omega), cond_true, h1, h2, List.length_singleton, room (by omega) (by omega), cond_true, h3, e]
    exact f3 kN

theorem any_go {b3 b4 : Bool} {n30 n31 n32 n33 n34 : Int} {l2 : List Int} {l3 : List Device} (hl : l2.length ≤ 2 ^ 30) : ∀ (d f i : Nat) (p m : Int) (b5 : Bool) (L : List Device), 20 ≤ i + d → d + 1 < f → L.length + d ≤ 100 → (0 ≤ p ∧ p ≤ 2 ^ 40) →
    ∃ (p' m' : Int) (b' : Bool) (L' : List Device), L'.length ≤ 100 ∧ (0 ≤ p' ∧ p' ≤ 2 ^ 40) ∧ ∀ kN : Int → Int → Bool → List Device → Option R, l_spec_l01Src_anyBoard_Wr_1 N b3 n30 l2 n31 n32 b4 l3 n33 n34 kN f (i : Int) p m b5 L = kN p' m' b' L' := by
  intro d
  induction d with
  | zero =>
    intro f i p m b5 L hi hf hL hp
    obtain ⟨f, rfl⟩ : ∃ j, f = j + 1 := ⟨f - 1, by omega⟩
    obtain ⟨v1, p1, m1, a0, a1, _, hp1, h1⟩ := src_n (R := R) N (n := 3) (b := b3) (m := m) (z := n30) (by omega) hl hp
    have a2 := a1 (by omega)
    refine ⟨p1, m1, b5, L, by omega, hp1, fun kN => ?_⟩
    rw [l_spec_l01Src_anyBoard_Wr_1, s_spec_l01Src_anyBoard_Wr_1, h1, w64 (by omega) (by omega), decide_eq_false (show ¬ (i : Int) < 15 + v1 by omega), cond_false]
  | succ d ih =>
    intro f i p m b5 L hi hf hL hp
    obtain ⟨f, rfl⟩ : ∃ j, f = j + 1 := ⟨f - 1, by omega⟩
    obtain ⟨v1, p1, m1, a0, a1, _, hp1, h1⟩ := src_n (R := R) N (n := 3) (b := b3) (m := m) (z := n30) (by omega) hl hp
    have a2 := a1 (by omega)
    by_cases hlt : (i : Int) < 15 + v1
    · have e : IntKind.wrap .i64 ((i : Int) + 1) = ((i + 1 : Nat) : Int) := by rw [w64 (by omega) (by omega)]; omega
      obtain ⟨p', m', b', L', f1, f2, f3⟩ := ih f (i + 1) p1 m1 (cond (Nat.beq 1 0) b5 false) (L ++ [⟨1, (i : Int), 0⟩]) (by omega) (by omega) (by rw [List.length_append, List.length_singleton]; omega) hp1
      refine ⟨p', m', b', L', f1, f2, fun kN => ?_⟩
      rw [l_spec_l01Src_anyBoard_Wr_1, s_spec_l01Src_anyBoard_Wr_1, h1, w64 (n := 15 + v1) (by omega) (by omega), decide_eq_true hlt, cond_true, List.length_singleton, room (by omega) (by omega), cond_true, e]
      exact f3 kN
    · refine ⟨p1, m1, b5, L, by omega, hp1, fun kN => ?_⟩
      rw [l_spec_l01Src_anyBoard_Wr_1, s_spec_l01Src_anyBoard_Wr_1, h1, w64 (by omega) (by omega), decide_eq_false hlt, cond_false]

theorem board_ok {b : Bool} {p m z : Int} {l : List Int} (hl : l.length ≤ 2 ^ 30) (hp : 0 ≤ p ∧ p ≤ 2 ^ 40) (hN : 2 ^ 40 < N) :
    ∃ (fr cp : Int) (b' : Bool) (p' m' : Int) (L : List Device), L.length ≤ 100 ∧ (0 ≤ p' ∧ p' ≤ 2 ^ 40) ∧ ∀ k : Int → Int → Bool → Int → Int → List Device → Option R, g_spec_l01Src_board_Wr N b p m z l k = k fr cp b' p' m' L := by
  obtain ⟨v1, p1, m1, _, _, _, hp1, h1⟩ := src_n (R := R) N (n := 6) (b := b) (m := m) (z := z) (by omega) hl hp
  obtain ⟨v2, p2, m2, _, _, _, hp2, h2⟩ := src_n (R := R) N (n := 8) (b := b) (m := m1) (z := z) (by omega) hl hp1
  obtain ⟨v3, p3, m3, _, _, _, hp3, h3⟩ := src_n (R := R) N (n := 4) (b := b) (m := m2) (z := z) (by omega) hl hp2
  obtain ⟨v4, p4, m4, a0, a1, _, hp4, h4⟩ := src_n (R := R) N (n := 4) (b := b) (m := m3) (z := z) (by omega) hl hp3
  have a2 := a1 (by omega)
  obtain ⟨d, rfl⟩ := Int.eq_ofNat_of_zero_le a0
  obtain ⟨p', m', b', L', f1, f2, f3⟩ := board_go (R := R) N (b1 := b) (b2 := true) (n19 := z) (n20 := 0) (n21 := 0) (n22 := IntKind.wrap .i64 (2 + v1)) (n23 := IntKind.wrap .i64 (1 + v2)) (l2 := []) hl d N v3 p4 m4 true [] (by omega) (by simp; omega) hp4
  refine ⟨IntKind.wrap .i64 (2 + v1), IntKind.wrap .i64 (1 + v2), b', p', m', L', f1, f2, fun k => ?_⟩
  unfold g_spec_l01Src_board_Wr c_spec_l01Src_board_Wr_0
  rw [h1, h2, h3, h4]
  exact f3 _

theorem DrawTablesOf_ok {b : Bool} {l : List Int} (hl : l.length ≤ 2 ^ 30) (hN : 2 ^ 40 < N) : ∃ (fr cp : Int) (b' : Bool) (L : List Device), L.length ≤ 200 ∧ ∀ k : Int → Int → Bool → List Device → Option R, g_spec_DrawTablesOf_r N b l k = k fr cp b' L := by
  obtain ⟨m, z, _, _, h0⟩ := src_of (R := R) N (b := b) hl hN
  obtain ⟨fr, cp, b1, p1, m1, L1, g1, hp1, h1⟩ := board_ok (R := R) N (b := b) (p := 0) (m := m) (z := z) hl (by omega) hN
  obtain ⟨b2, p2, m2, hp2, h2⟩ := src_one (R := R) N (n := 5) (b := b) (m := m1) (z := z) (by omega) hl hp1
  cases b2 with
  | false =>
    refine ⟨fr, cp, b1, L1, by omega, fun k => ?_⟩
    unfold g_spec_DrawTablesOf_r g_spec_l01Src_anyBoard_Wr
    rw [h0, h1, h2, Bool.not_false, cond_true]
  | true =>
    obtain ⟨v3, p3, m3, a0, a1, _, hp3, h3⟩ := src_n (R := R) N (n := 6) (b := b) (m := m2) (z := z) (by omega) hl hp2
    by_cases q0 : v3 = 0
    · obtain ⟨v4, p4, m4, c0, c1, _, hp4, h4⟩ := src_n (R := R) N (n := 3) (b := b) (m := m3) (z := z) (by omega) hl hp3
      have c2 := c1 (by omega)
      obtain ⟨x, _, hk⟩ := pick_lit (R := R) (L := [(1 : Int), (256 : Int), (257 : Int)]) c0 (by simpa using c2)
      refine ⟨x, cp, b1, L1, by omega, fun k => ?_⟩
      unfold g_spec_DrawTablesOf_r g_spec_l01Src_anyBoard_Wr
      rw [h0, h1, h2, Bool.not_true, cond_false, h3, q0, show ((0 : Int) == 0) = true from rfl, cond_true, h4, in_rng c0 c2, cond_true, hk]
    by_cases q1 : v3 = 1
    · obtain ⟨v4, p4, m4, c0, c1, _, hp4, h4⟩ := src_n (R := R) N (n := 2) (b := b) (m := m3) (z := z) (by omega) hl hp3
      have c2 := c1 (by omega)
      obtain ⟨x, _, hk⟩ := pick_lit (R := R) (L := [(0 : Int), (9 : Int)]) c0 (by simpa using c2)
      refine ⟨fr, x, b1, L1, by omega, fun k => ?_⟩
      unfold g_spec_DrawTablesOf_r g_spec_l01Src_anyBoard_Wr
      rw [h0, h1, h2, Bool.not_true, cond_false, h3, q1, show ((1 : Int) == 0) = false from rfl, cond_false, show ((1 : Int) == 1) = true from rfl, cond_true, h4, in_rng c0 c2, cond_true, hk]
    by_cases q2 : v3 = 2
    · obtain ⟨v4, p4, m4, c0, c1, _, hp4, h4⟩ := src_n (R := R) N (n := 4) (b := b) (m := m3) (z := z) (by omega) hl hp3
      have c2 := c1 (by omega)
      obtain ⟨x, _, hk⟩ := pick_lit (R := R) (L := [(0 : Int), (255 : Int), (256 : Int), (3 : Int)]) c0 (by simpa using c2)
      obtain ⟨v5, p5, m5, d0, d1, _, hp5, h5⟩ := src_n (R := R) N (n := 4) (b := b) (m := m4) (z := z) (by omega) hl hp4
      have d2 := d1 (by omega)
      obtain ⟨y, _, hk5⟩ := pick_lit (R := R) (L := [(100 : Int), (2047 : Int), (2048 : Int), (0 : Int)]) d0 (by simpa using d2)
      obtain ⟨v6, p6, m6, _, _, _, hp6, h6⟩ := src_n (R := R) N (n := 9) (b := b) (m := m5) (z := z) (by omega) hl hp5
      refine ⟨fr, cp, cond (Nat.beq 1 0) b1 false, L1 ++ [⟨x, y, IntKind.wrap .i64 (v6 - 1)⟩], by rw [List.length_append, List.length_singleton]; omega, fun k => ?_⟩
      unfold g_spec_DrawTablesOf_r g_spec_l01Src_anyBoard_Wr
      rw [h0, h1, h2, Bool.not_true, cond_false, h3, q2, show ((2 : Int) == 0) = false from rfl, cond_false, show ((2 : Int) == 1) = false from rfl, cond_false, show ((2 : Int) == 2) = true from rfl, cond_true, h4, in_rng c0 c2, cond_true, hk, h5, in_rng d0 d2, cond_true, hk5, h6, List.length_singleton, room (by omega) (by omega), cond_true]
    have e0 : (v3 == 0) = false := by simpa using q0
    have e1 : (v3 == 1) = false := by simpa using q1
    have e2 : (v3 == 2) = false := by simpa using q2
    by_cases q3 : v3 = 3
    · obtain ⟨p4, m4, b4, L4, f1, hp4, h4⟩ := any_go (R := R) N (b3 := b) (b4 := true) (n30 := z) (n31 := 0) (n32 := 0) (n33 := fr) (n34 := cp) (l2 := l) (l3 := []) hl 20 N 0 p3 m3 false [] (by omega) (by omega) (by simp) hp3
      refine ⟨fr, cp, b4, L4, by omega, fun k => ?_⟩
      unfold g_spec_DrawTablesOf_r g_spec_l01Src_anyBoard_Wr c_spec_l01Src_anyBoard_Wr_1
      rw [h0, h1, h2, Bool.not_true, cond_false, h3, e0, cond_false, e1, cond_false, e2, cond_false, q3, show ((3 : Int) == 3) = true from rfl, cond_true]
      exact h4 _
    · have e3 : (v3 == 3) = false := by simpa using q3
      refine ⟨fr, cp, b1, L1, by omega, fun k => ?_⟩
      unfold g_spec_DrawTablesOf_r g_spec_l01Src_anyBoard_Wr
      rw [h0, h1, h2, Bool.not_true, cond_false, h3, e0, cond_false, e1, cond_false, e2, cond_false, e3, cond_false]

theorem devB_facts {x : Device} {p : Bool} (h : dvB x p = false) : 1 ≤ x.fKind ∧ x.fKind ≤ 255 ∧ 0 ≤ x.fPort ∧ x.fPort ≤ 2047 ∧ 0 ≤ x.fLine ∧ x.fLine ≤ 6 := by
  unfold dvB at h
  simp only [Bool.or_eq_false_iff, Bool.not_eq_false', Bool.and_eq_true, decide_eq_true_eq] at h
  omega

theorem board_dev {fr cp : Int} {l : List Device} (h : (boardFault fr cp l != 0) = false) : 2 ≤ fr ∧ fr ≤ 256 ∧ 1 ≤ cp ∧ cp ≤ 8 ∧ l.length ≤ 16 ∧ ∀ i x, nth l i = some x → 1 ≤ x.fKind ∧ x.fKind ≤ 255 ∧ 0 ≤ x.fPort ∧ x.fPort ≤ 2047 ∧ 0 ≤ x.fLine ∧ x.fLine ≤ 6 := by
  unfold boardFault at h
  cases h1 : (!(decide (fr ≥ 2) && decide (fr ≤ 256)) || (!(decide (cp ≥ 1) && decide (cp ≤ 8)) || decide (l.length > 16))) with
  | true => rw [h1] at h; cases h
  | false =>
    rw [h1, cond_false] at h
    simp only [Bool.or_eq_false_iff, Bool.not_eq_false', Bool.and_eq_true, decide_eq_true_eq, decide_eq_false_iff_not] at h1
    refine ⟨by omega, by omega, by omega, by omega, by omega, fun i x hx => ?_⟩
    cases h2 : (List.range l.length).any (dvBad l) with
    | true => rw [h2] at h; cases h
    | false =>
      have := List.any_eq_false.1 h2 i (List.mem_range.2 (nth_lt hx))
      unfold dvBad at this
      rw [hx] at this
      exact devB_facts (by simpa using this)

theorem devWords_cat (l : List Device) : devWords l = catB (l.map fun x => putWord (devWord x)) := by
  unfold devWords
  rw [foldl_append, ba_empty_append]

theorem catW_at (f : Device → Int) : ∀ (l : List Device) (i : Nat) (x : Device), nth l i = some x → wordAt (catB (l.map fun x => putWord (f x))) (4 * i) = word (f x)
  | y :: l, 0, x, h => by
    cases h
    simp only [List.map_cons, catB]
    rw [wordAt_left (by rw [putWord_size]; omega), wordAt_putWord]
  | y :: l, i + 1, x, h => by
    simp only [List.map_cons, catB]
    have := wordAt_right (putWord (f y)) (catB (l.map fun x => putWord (f x))) (4 * i)
    rw [putWord_size] at this
    rw [show 4 * (i + 1) = 4 + 4 * i by omega, this, catW_at f l i x h]
  | [], i, x, h => by cases h

theorem devs_words {l : List Device} (h : ∀ i x, nth l i = some x → 1 ≤ x.fKind ∧ x.fKind ≤ 255 ∧ 0 ≤ x.fPort ∧ x.fPort ≤ 2047 ∧ 0 ≤ x.fLine ∧ x.fLine ≤ 6) : devs (devWords l) = l := by
  refine ext_nth fun i => ?_
  unfold devs
  rw [devWords_size, nth_map]
  rcases Nat.lt_or_ge i l.length with hi | hi
  · obtain ⟨x, hx⟩ := nth_some hi
    have hr : nth (List.range (4 * l.length / 4)) i = some i := by rw [nth_eq, List.getElem?_range (by omega)]
    rw [hr, hx]
    obtain ⟨a1, a2, a3, a4, a5, a6⟩ := h i x hx
    have hw : wordAt (devWords l) (4 * i) = x.fKind * 16777216 + x.fLine * 65536 + x.fPort := by
      rw [devWords_cat, catW_at devWord l i x hx]
      unfold devWord word
      rw [w64 (n := x.fKind * 16777216) (by omega) (by omega), w64 (n := x.fLine * 65536) (by omega) (by omega), w64 (n := x.fKind * 16777216 + x.fLine * 65536) (by omega) (by omega), w64 (by omega) (by omega)]
      omega
    show some (devAt (devWords l) i) = some x
    unfold devAt
    rw [hw]
    obtain ⟨k, q, r⟩ := x
    simp only at a1 a2 a3 a4 a5 a6 ⊢
    congr 1
    have e1 : (k * 16777216 + r * 65536 + q) / 16777216 = k := by omega
    have e2 : (k * 16777216 + r * 65536 + q) % 65536 = q := by omega
    have e3 : (k * 16777216 + r * 65536 + q) / 65536 % 256 = r := by omega
    rw [e1, e2, e3]
  · rw [nth_none hi, nth_none (by rw [List.length_range]; omega)]
    rfl

theorem boardOf_tables {fr cp : Int} {l : List Device} (h : (boardFault fr cp l != 0) = false) : boardOf (tables fr cp l) = (true, fr, cp, decide ((devWords l).size / 4 = 0), l) := by
  obtain ⟨f1, f2, c1, c2, hl, hd⟩ := board_dev h
  have hdv := devs_words hd
  have hz := devWords_size l
  have hfr : wordAt (putWord fr) 0 = fr := by rw [wordAt_putWord]; unfold word; omega
  have hcp : wordAt (putWord cp) 0 = cp := by rw [wordAt_putWord]; unfold word; omega
  have ht : tables fr cp l = [⟨⟨[(77 : UInt8), (69 : UInt8), (77 : UInt8), (79 : UInt8)].toArray⟩, 1, putWord fr⟩, ⟨⟨[(67 : UInt8), (80 : UInt8), (85 : UInt8), (83 : UInt8)].toArray⟩, 1, putWord cp⟩, ⟨⟨[(68 : UInt8), (69 : UInt8), (86 : UInt8), (83 : UInt8)].toArray⟩, 1, devWords l⟩] := by
    unfold tables
    rw [h, cond_false]
  have hb : ∀ x y z : FirmTable, boardOf [x, y, z] = cond ((x.fBody.size == 4) && ((y.fBody.size == 4) && (decide (z.fBody.size ≤ 64) && decide (tables (wordAt x.fBody 0) (wordAt y.fBody 0) (devs z.fBody) = [x, y, z])))) (true, wordAt x.fBody 0, wordAt y.fBody 0, decide (z.fBody.size / 4 = 0), devs z.fBody) (false, 0, 0, true, []) := fun _ _ _ => rfl
  rw [ht, hb]
  dsimp only
  rw [hfr, hcp, hdv, ht, putWord_size, putWord_size, decide_eq_true (show (devWords l).size ≤ 64 by omega), decide_eq_true rfl]
  rfl


theorem spec_PutTables_eq {s : ByteArray} {n : Int} {l : List FirmTable} {b : Bool} (hs : s.size ≤ 2 ^ 30) (hx : ∀ x ∈ l, x.fName.size ≤ 2 ^ 30 ∧ x.fBody.size ≤ 2 ^ 30) (hN : 2 ^ 40 < N) (k : ByteArray → Option R) : g_spec_PutTables_w N s n b l k = k (putTables s n l) := by
  unfold g_spec_PutTables_w
  simp only [spec_MemFault_eq, cond_somes, oK_some_eq, Bool.cond_true_left]
  have hm : ((cond (memOk s) (0 : Int) 1) != 0) = !memOk s := by cases memOk s <;> rfl
  rw [hm]
  by_cases hg : (memOk s && (!decide (n < 0) && (!(n.tmod 4 != 0) && (!decide ((l.length : Int) > 10))))) = true
  · have hg' := hg
    simp only [Bool.and_eq_true, Bool.not_eq_true', decide_eq_false_iff_not] at hg
    obtain ⟨g1, g2, g3, h10⟩ := hg
    by_cases hn : n > (s.size : Int)
    · have hf : ∀ t, fitsAt s.size n t = false := fun t => by
        unfold fitsAt
        rw [decide_eq_false (show ¬ n ≤ (s.size : Int) by omega)]
        cases decide (n ≥ 0) <;> cases decide (t ≥ 0) <;> rfl
      rw [decide_eq_true hn]
      unfold putTables
      rw [hf, cond_false, cond_same]
      cases memOk s <;> cases decide (n < 0) <;> cases (n.tmod 4 != 0) <;> rfl
    · rw [decide_eq_false hn, g1, decide_eq_false g2, g3, decide_eq_false h10]
      have hp : putTables s n l = cond (l.any fun x => !tblOk x) ⟨[].toArray⟩ (cond (fitsAt s.size n (((tblRows n l).1 ++ putWord (-(wordSum (tblRows n l).1))) ++ (tblRows n l).2).size) (splice s n.toNat (((tblRows n l).1 ++ putWord (-(wordSum (tblRows n l).1))) ++ (tblRows n l).2)) ⟨[].toArray⟩) := by
        unfold putTables
        rw [g1, decide_eq_false g2, g3, decide_eq_false h10]
        cases (l.any fun x => !tblOk x) <;> rfl
      rw [hp, Bool.not_true, Bool.or_false, Bool.or_false, Bool.or_false, Bool.or_false, cond_false, spec_PutWord_eq, putWord_size, show Nat.ble (4 + 4) 9223372036854775807 = true from rfl, cond_true]
      refine (spec_PutTables_loop N (by omega) hx hN _ _).trans ?_
      cases hany : (l.any fun x => !tblOk x) with
      | true => rfl
      | false =>
        have hall : ∀ x ∈ l, tblOk x = true := by
          intro x hm
          have := List.any_eq_false.1 hany x hm
          simpa using this
        obtain ⟨_, a2, a3⟩ := impl_PutTables_loop N (s := s) (n := n) (b := b) (l := l) (by omega) hall hN (fun _ _ => (none : Option R))
        simp only [cond_false]
        generalize tblRows n l = st at a2 a3 ⊢
        obtain ⟨hd, bd⟩ := st
        dsimp only at a2 a3 ⊢
        obtain ⟨_, w1, w2⟩ := spec_l21Words_eq N (s := hd) (by omega) hN (fun _ => (none : Option R))
        have hsz : (hd ++ putWord (-(wordSum hd))).size = hd.size + 4 := by rw [ByteArray.size_append, putWord_size]
        have hsz3 : ((hd ++ putWord (-(wordSum hd))) ++ bd).size = hd.size + 4 + bd.size := by rw [ByteArray.size_append, hsz]
        rw [(spec_l21Words_eq N (s := hd) (by omega) hN _).1, spec_PutWord_eq, w64 (n := 0 - wordSum hd) (by omega) (by omega), show 0 - wordSum hd = -(wordSum hd) by omega, putWord_size, ble_t (by omega), cond_true, spec_l10In_eq, hsz, hsz3,
          w64 (n := ((hd.size + 4 : Nat) : Int) + (bd.size : Int)) (by omega) (by omega), show ((hd.size + 4 : Nat) : Int) + (bd.size : Int) = ((hd.size + 4 + bd.size : Nat) : Int) by omega]
        cases hf : fitsAt s.size n ((hd.size + 4 + bd.size : Nat) : Int) with
        | false => rfl
        | true =>
          obtain ⟨f1, f2, f3⟩ := fits_nat (by omega) hf
          obtain ⟨a, rfl⟩ := Int.eq_ofNat_of_zero_le f1
          have e1 : IntKind.wrap .i64 ((a : Int) + ((hd.size + 4 + bd.size : Nat) : Int)) = ((a + (hd.size + 4 + bd.size) : Nat) : Int) := by rw [w64 (by omega) (by omega)]; omega
          simp only [Bool.not_true, cond_false, cond_true, e1, dec_nn, Int.toNat_natCast, decide_eq_true (show ((a : Int) ≤ (s.size : Int)) by omega), decide_eq_true (show (((a + (hd.size + 4 + bd.size) : Nat) : Int) ≤ (s.size : Int)) by omega), Bool.and_true, Int.le_refl, decide_true]
          rw [ble_t (by rw [ByteArray.size_extract]; omega), cond_true, ble_t (by rw [ByteArray.size_append, ByteArray.size_extract, hsz]; omega), cond_true, ble_t (by rw [ByteArray.size_append, ByteArray.size_append, ByteArray.size_extract, ByteArray.size_extract, hsz]; omega), cond_true]
          unfold splice
          rw [hsz3, ByteArray.append_assoc (a := s.extract 0 a)]
  · rw [Bool.not_eq_true] at hg
    have hp : putTables s n l = ⟨[].toArray⟩ := by
      unfold putTables
      revert hg
      cases memOk s <;> cases decide (n < 0) <;> cases (n.tmod 4 != 0) <;> cases decide ((l.length : Int) > 10) <;> intro hg <;> first | rfl | cases hg
    rw [hp]
    revert hg
    cases memOk s <;> cases decide (n < 0) <;> cases (n.tmod 4 != 0) <;> cases decide ((l.length : Int) > 10) <;> cases decide (n > (s.size : Int)) <;> intro hg <;> first | rfl | cases hg

theorem fw_board {b : Bool} {l : List Int} (hl : l.length ≤ 2 ^ 30) (hN : 2 ^ 40 < N) (k : Bool → Option R) :
    (g_spec_DrawTablesOf_r N b l fun n9 n10 b9 l9 => g_spec_BoardFault_w N n9 n10 b9 l9 fun n11 => cond (n11 != 0) (k true)
      (g_impl_TablesOf_w N n9 n10 b9 l9 fun b10 l10 => g_impl_BoardOf_w N b10 l10 fun b11 n12 n13 b12 l11 =>
        oK (cond (!b11) (some true) (cond (n12 != n9) (some true) (cond (n13 != n10) (some true) (some (((l11.length : Nat) : Int) != ((l9.length : Nat) : Int)))))) fun j1 =>
          cond j1 (k false) (c_laws_FnFirmware_r_4 N l n9 n10 b9 l9 b11 n12 n13 b12 l11 0 (k false) (k true)))) = k true := by
  obtain ⟨fr, cp, b', L, hL, hd⟩ := DrawTablesOf_ok (R := R) N (b := b) hl hN
  rw [hd, spec_BoardFault_eq N hN]
  cases hf : (boardFault fr cp L != 0) with
  | true => rfl
  | false =>
    have hlen := tables_length fr cp L
    have hsm : ∀ x ∈ tables fr cp L, x.fName.size ≤ 2 ^ 30 ∧ x.fBody.size ≤ 2 ^ 30 := fun x hx => by
      have := tblOk_facts (tables_ok x hx)
      omega
    rw [cond_false, impl_TablesOf_eq N hN, impl_BoardOf_eq N (by omega) hsm hN, boardOf_tables hf]
    dsimp only
    rw [Bool.not_true, cond_false, bne_self_eq_false, cond_false, bne_self_eq_false, cond_false, bne_self_eq_false, oK_some_eq, cond_false]
    unfold c_laws_FnFirmware_r_4
    rw [srch (fun f i => l_laws_FnFirmware_r_4 N l fr cp b' L true fr cp (decide ((devWords L).size / 4 = 0)) L (k false) (k true) f i) L.length (fun _ => false) (k false) (k true) (fun f i hi => ?_) (fun f => ?_) (by omega)]
    · have : (List.range L.length).any (fun _ => false) = false := by rw [List.any_eq_false]; intro x _; simp
      rw [this]; rfl
    · obtain ⟨x, hx⟩ := nth_some hi
      rw [l_laws_FnFirmware_r_4, s_laws_FnFirmware_r_4, dec_lt hi, cond_true, dec_nn, Bool.and_self, cond_true, Int.toNat_natCast, elemK_some hx, cond_true, elemK_some hx, beq_self_eq_true, beq_self_eq_true, beq_self_eq_true, wrap_next hi (by omega)]
      rfl
    · rw [l_laws_FnFirmware_r_4, s_laws_FnFirmware_r_4, dec_nlt, cond_false]

theorem take_cat {l : List FirmTable} {i : Nat} {x : FirmTable} (h : nth l i = some x) : (catB ((l.take (i + 1)).map tblText)).size = (catB ((l.take i).map tblText)).size + (tblText x).size := by
  rw [nth_eq] at h
  rw [List.take_add_one, h, List.map_append, catB_append, ByteArray.size_append]
  show _ + (catB [tblText x]).size = _
  rw [show catB [tblText x] = tblText x from ba_append_empty _]
end
end Go.Sa
