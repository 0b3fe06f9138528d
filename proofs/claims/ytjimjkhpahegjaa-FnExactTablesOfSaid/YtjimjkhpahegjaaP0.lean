import Derived.Test.YtjimjkhpahegjaaW1
set_option linter.all false
namespace Go.Sa
open Go Go.Eng Go.Proofs
section
variable {R : Type} (N : Nat)

@[simp] theorem laws_toDevice_eq (a0 : Int) (a1 : Int) (a2 : Int) (k : Option R) : g_laws_toDevice N a0 a1 a2 k = k := rfl

theorem laws_toDeviceS_r_eq {l : List Device} {b : Bool} (hl : l.length ≤ 2 ^ 40) (hN : 2 ^ 40 < N) (k : List Device → Option R) : g_laws_toDeviceS_r N b l k = k l := by
  unfold g_laws_toDeviceS_r
  rw [Int.toNat_natCast, room (by omega) (by omega), dec_self]
  unfold c_laws_toDeviceS_r_0
  refine (copyl (l_laws_toDeviceS_r_0 N b false l (fun l4 => k l4)) l (fun x => x) k (fun f i ys x hi hy hx => ?_) (fun f ys hy => ?_) (by simp) (by omega)).trans (by rw [List.map_id'])
  · obtain ⟨y, hy1⟩ := nth_some (l := ys) (n := i) (by omega)
    simp only [l_laws_toDeviceS_r_0, s_laws_toDeviceS_r_0, laws_toDevice_eq, dec_lt hi, dec_nn, Int.toNat_natCast, elemK_some hx, elemK_some hy1, dec_lt (show i < ys.length by omega), blt_t (show i < ys.length by omega), wrap_next hi (by omega), Bool.and_true, cond_true]
  · simp only [l_laws_toDeviceS_r_0, s_laws_toDeviceS_r_0, dec_nlt, cond_false]

theorem laws_eqDevice_eq (x y : Device) (k : Bool → Option R) : g_laws_eqDevice N x.fKind x.fPort x.fLine y.fKind y.fPort y.fLine k = k (decide (x = y)) := by
  unfold g_laws_eqDevice
  by_cases h0 : x.fKind = y.fKind
  case neg =>
    rw [decide_eq_false (show ¬ x = y from fun e => h0 (by rw [e]))]
    simp only [bne_dec, beq_dec, h0, decide_false, Bool.not_false, cond_true]
  simp only [bne_dec, beq_dec, h0, decide_true, Bool.not_true, cond_false]
  by_cases h1 : x.fPort = y.fPort
  case neg =>
    rw [decide_eq_false (show ¬ x = y from fun e => h1 (by rw [e]))]
    simp only [bne_dec, beq_dec, h1, decide_false, Bool.not_false, cond_true]
  simp only [bne_dec, beq_dec, h1, decide_true, Bool.not_true, cond_false]
  by_cases h2 : x.fLine = y.fLine
  case neg =>
    rw [decide_eq_false (show ¬ x = y from fun e => h2 (by rw [e]))]
    simp only [bne_dec, beq_dec, h2, decide_false, Bool.not_false, cond_true]
  simp only [bne_dec, beq_dec, h2, decide_true, Bool.not_true, cond_false]
  rw [decide_eq_true (show x = y by cases x; cases y; simp_all)]

theorem laws_eqDeviceS_rr_eq {l m : List Device} {b b1 : Bool} (hl : l.length ≤ 2 ^ 40) (hN : 2 ^ 40 < N) (k : Bool → Option R) : g_laws_eqDeviceS_rr N b b1 l m k = k (decide (l = m)) := by
  unfold g_laws_eqDeviceS_rr
  by_cases h : l.length = m.length
  · rw [show ((l.length : Int) != (m.length : Int)) = false by simp [h]]
    unfold c_laws_eqDeviceS_rr_0
    refine (eql (l_laws_eqDeviceS_rr_0 N b b1 l m (k false) (k true)) l m h (k false) (k true) (fun f i x y hi hx hy => ?_) (fun f => ?_) (by omega)).trans ?_
    · simp only [l_laws_eqDeviceS_rr_0, s_laws_eqDeviceS_rr_0, dec_lt hi, dec_nn, Int.toNat_natCast, elemK_some hx, elemK_some hy, dec_lt (show i < m.length by omega), laws_eqDevice_eq, wrap_next hi (by omega), Bool.and_true, cond_true]
    · simp only [l_laws_eqDeviceS_rr_0, s_laws_eqDeviceS_rr_0, dec_nlt, cond_false]
    · cases decide (l = m) <;> rfl
  · rw [show ((l.length : Int) != (m.length : Int)) = true by simp; omega]
    rw [decide_eq_false (fun e => h (by rw [e]))]
    rfl

theorem laws_szDeviceS_r_eq {l : List Device} {b : Bool} (hl : l.length ≤ maxLen) (k : Int → Option R) : g_laws_szDeviceS_r N b 1048576 l k = k (cond (decide (1048576 < l.length)) (-1) (1048576 - (l.length : Int))) := by
  unfold g_laws_szDeviceS_r
  have hm : maxLen = 9223372036854775807 := rfl
  rw [w64 (by omega) (by omega)]
  by_cases h : 1048576 < l.length
  · rw [decide_eq_true h, decide_eq_true (by omega)]; rfl
  · rw [decide_eq_false h, decide_eq_false (by omega)]; rfl

theorem laws_eqFirmTable_eq (x y : FirmTable) (k : Bool → Option R) : g_laws_eqFirmTable N x.fName x.fRev x.fBody y.fName y.fRev y.fBody k = k (decide (x = y)) := by
  unfold g_laws_eqFirmTable
  by_cases h0 : x.fName = y.fName
  case neg =>
    rw [decide_eq_false (show ¬ x = y from fun e => h0 (by rw [e]))]
    simp only [bne_dec, beq_dec, h0, decide_false, Bool.not_false, cond_true]
  simp only [bne_dec, beq_dec, h0, decide_true, Bool.not_true, cond_false]
  by_cases h1 : x.fRev = y.fRev
  case neg =>
    rw [decide_eq_false (show ¬ x = y from fun e => h1 (by rw [e]))]
    simp only [bne_dec, beq_dec, h1, decide_false, Bool.not_false, cond_true]
  simp only [bne_dec, beq_dec, h1, decide_true, Bool.not_true, cond_false]
  by_cases h2 : x.fBody = y.fBody
  case neg =>
    rw [decide_eq_false (show ¬ x = y from fun e => h2 (by rw [e]))]
    simp only [bne_dec, beq_dec, h2, decide_false, Bool.not_false, cond_true]
  simp only [bne_dec, beq_dec, h2, decide_true, Bool.not_true, cond_false]
  rw [decide_eq_true (show x = y by cases x; cases y; simp_all)]

theorem laws_eqFirmTableS_ww_eq {l m : List FirmTable} {b b1 : Bool} (hl : l.length ≤ 2 ^ 40) (hN : 2 ^ 40 < N) (k : Bool → Option R) : g_laws_eqFirmTableS_ww N b b1 l m k = k (decide (l = m)) := by
  unfold g_laws_eqFirmTableS_ww
  by_cases h : l.length = m.length
  · rw [show ((l.length : Int) != (m.length : Int)) = false by simp [h]]
    unfold c_laws_eqFirmTableS_ww_0
    refine (eql (l_laws_eqFirmTableS_ww_0 N b b1 l m (k false) (k true)) l m h (k false) (k true) (fun f i x y hi hx hy => ?_) (fun f => ?_) (by omega)).trans ?_
    · simp only [l_laws_eqFirmTableS_ww_0, s_laws_eqFirmTableS_ww_0, dec_lt hi, dec_nn, Int.toNat_natCast, elemK_some hx, elemK_some hy, dec_lt (show i < m.length by omega), laws_eqFirmTable_eq, wrap_next hi (by omega), Bool.and_true, cond_true]
    · simp only [l_laws_eqFirmTableS_ww_0, s_laws_eqFirmTableS_ww_0, dec_nlt, cond_false]
    · cases decide (l = m) <;> rfl
  · rw [show ((l.length : Int) != (m.length : Int)) = true by simp; omega]
    rw [decide_eq_false (fun e => h (by rw [e]))]
    rfl

theorem laws_eqFirmTableS_rr_eq {l m : List FirmTable} {b b1 : Bool} (hl : l.length ≤ 2 ^ 40) (hN : 2 ^ 40 < N) (k : Bool → Option R) : g_laws_eqFirmTableS_rr N b b1 l m k = k (decide (l = m)) := by
  unfold g_laws_eqFirmTableS_rr
  by_cases h : l.length = m.length
  · rw [show ((l.length : Int) != (m.length : Int)) = false by simp [h]]
    unfold c_laws_eqFirmTableS_rr_0
    refine (eql (l_laws_eqFirmTableS_rr_0 N b b1 l m (k false) (k true)) l m h (k false) (k true) (fun f i x y hi hx hy => ?_) (fun f => ?_) (by omega)).trans ?_
    · simp only [l_laws_eqFirmTableS_rr_0, s_laws_eqFirmTableS_rr_0, dec_lt hi, dec_nn, Int.toNat_natCast, elemK_some hx, elemK_some hy, dec_lt (show i < m.length by omega), laws_eqFirmTable_eq, wrap_next hi (by omega), Bool.and_true, cond_true]
    · simp only [l_laws_eqFirmTableS_rr_0, s_laws_eqFirmTableS_rr_0, dec_nlt, cond_false]
    · cases decide (l = m) <;> rfl
  · rw [show ((l.length : Int) != (m.length : Int)) = true by simp; omega]
    rw [decide_eq_false (fun e => h (by rw [e]))]
    rfl

@[simp] theorem impl_yin_eq (a lo hi : Int) (k : Bool → Option R) : g_impl_yin N a lo hi k = k (decide (a ≥ lo) && decide (a ≤ hi)) := by
  simp [g_impl_yin]

def word (n : Int) : Int := n % 4294967296

def putWord (n : Int) : ByteArray := toBytes [word n % 256, word n / 256 % 256, word n / 65536 % 256, word n / 16777216 % 256]

theorem putWord_size (n : Int) : (putWord n).size = 4 := toBytes_size _

theorem impl_PutWord_eq (n : Int) (k : ByteArray → Option R) : g_impl_PutWord N n k = k (putWord n) := by
  simp only [g_impl_PutWord, wu8, wu32, fdiv_lit _ (show (0 : Int) ≤ 256 by omega), fdiv_lit _ (show (0 : Int) ≤ 65536 by omega), fdiv_lit _ (show (0 : Int) ≤ 16777216 by omega), seg_all]
  rfl

theorem spec_l01Mod_eq {n m : Int} (hm : 0 < m) (hm2 : m ≤ 2 ^ 62) (k : Int → Option R) : g_spec_l01Mod N n m k = k (n % m) := by
  unfold g_spec_l01Mod
  obtain ⟨h1, h2⟩ := tmod_bound (n := n) hm
  rw [show (m == 0) = false by rw [beq_dec]; exact decide_eq_false (by omega), ← tmod_add (n := n) hm]
  by_cases h : n.tmod m < 0
  · rw [decide_eq_true h, if_pos h, w64 (by omega) (by omega)]; rfl
  · rw [decide_eq_false h, if_neg h]; rfl

theorem spec_Word_eq (n : Int) (k : Int → Option R) : g_spec_Word N n k = k (word n) := by
  unfold g_spec_Word
  rw [spec_l01Mod_eq N (by omega) (by omega)]
  rfl

theorem spec_PutWord_eq (n : Int) (k : ByteArray → Option R) : g_spec_PutWord N n k = k (putWord n) := by
  simp only [g_spec_PutWord, spec_Word_eq, wu8, fdiv_lit _ (show (0 : Int) ≤ 256 by omega), fdiv_lit _ (show (0 : Int) ≤ 65536 by omega), fdiv_lit _ (show (0 : Int) ≤ 16777216 by omega), seg_all]
  rfl


def dvB (x : Device) (p : Bool) : Bool :=
  !(decide (x.fKind ≥ 1) && decide (x.fKind ≤ 255)) || (!(decide (x.fPort ≥ 0) && decide (x.fPort ≤ 2047)) || (!(decide (x.fLine ≥ 0) && decide (x.fLine ≤ 6)) || p))

def dvBad (l : List Device) (i : Nat) : Bool :=
  match nth l i with
  | none => true
  | some x => dvB x (prevIs (fun y x => decide (y.fPort ≥ x.fPort)) l i x)

def boardFault (fr cp : Int) (l : List Device) : Int :=
  cond (!(decide (fr ≥ 2) && decide (fr ≤ 256)) || (!(decide (cp ≥ 1) && decide (cp ≤ 8)) || decide (l.length > 16))) 1 (cond ((List.range l.length).any (dvBad l)) 1 0)

theorem impl_BoardFault_eq {fr cp : Int} {l : List Device} {b : Bool} (hN : 2 ^ 40 < N) (k : Int → Option R) : g_impl_BoardFault_w N fr cp b l k = k (boardFault fr cp l) := by
  unfold g_impl_BoardFault_w boardFault
  have hg : decide ((l.length : Int) > 16) = decide (l.length > 16) := decide_eq_decide.2 (by omega)
  simp only [hg, impl_yin_eq, cond_somes, oK_some_eq, Bool.cond_true_left]
  by_cases hp : (!(decide (fr ≥ 2) && decide (fr ≤ 256)) || (!(decide (cp ≥ 1) && decide (cp ≤ 8)) || decide (l.length > 16))) = true
  · rw [hp]; rfl
  · rw [Bool.not_eq_true] at hp
    have hl : ¬ l.length > 16 := fun e => by rw [decide_eq_true e] at hp; simp at hp
    rw [hp]
    simp only [cond_false]
    unfold c_impl_BoardFault_w_0
    refine (srch (l_impl_BoardFault_w_0 N b l.length l fr cp b (k 1) (k 0)) l.length (dvBad l) (k 1) (k 0) (fun f i hi => ?_) (fun f => ?_) (by omega)).trans (cond_app _ k 1 0)
    · obtain ⟨x, hx⟩ := nth_some hi
      simp only [l_impl_BoardFault_w_0, s_impl_BoardFault_w_0, dec_lt hi, dec_nn, Int.toNat_natCast, elemK_some hx, wrap_next hi (by omega), Bool.and_true, cond_true, dvBad, hx]
      by_cases h0 : 0 < i
      · obtain ⟨y, hy⟩ := nth_some (l := l) (n := i - 1) (by omega)
        simp only [wrap_prev h0 (by omega), Int.toNat_natCast, elemK_some hy, prevIs, hy, dec_nn, dec_lt (show i - 1 < l.length by omega), decide_eq_true h0, decide_eq_true (show (i : Int) > 0 by omega), impl_yin_eq, Bool.and_true, cond_true, cond_somes, oK_some_eq, Bool.true_and]
        refine congrArg (fun c => cond c _ _) ?_
        rw [Bool.eq_iff_iff]
        simp [dvB]
      · have h00 : i = 0 := by omega
        subst h00
        simp only [prevIs, decide_eq_false (show ¬ (0 : Nat) < 0 by omega), decide_eq_false (show ¬ ((0 : Nat) : Int) > 0 by omega), impl_yin_eq, cond_somes, oK_some_eq, cond_false, Bool.false_and]
        refine congrArg (fun c => cond c _ _) ?_
        rw [Bool.eq_iff_iff]
        simp [dvB]
    · simp only [l_impl_BoardFault_w_0, s_impl_BoardFault_w_0, dec_nlt, cond_false]

theorem spec_BoardFault_eq {fr cp : Int} {l : List Device} {b : Bool} (hN : 2 ^ 40 < N) (k : Int → Option R) : g_spec_BoardFault_w N fr cp b l k = k (boardFault fr cp l) := by
  unfold g_spec_BoardFault_w boardFault
  have hg : decide ((l.length : Int) > 16) = decide (l.length > 16) := decide_eq_decide.2 (by omega)
  have hq : (decide (fr < 2) || (decide (fr > 256) || (decide (cp < 1) || (decide (cp > 8) || decide (l.length > 16))))) = (!(decide (fr ≥ 2) && decide (fr ≤ 256)) || (!(decide (cp ≥ 1) && decide (cp ≤ 8)) || decide (l.length > 16))) := by
    rw [Bool.eq_iff_iff]; simp; omega
  simp only [hg, cond_somes, oK_some_eq, Bool.cond_true_left, hq]
  by_cases hp : (!(decide (fr ≥ 2) && decide (fr ≤ 256)) || (!(decide (cp ≥ 1) && decide (cp ≤ 8)) || decide (l.length > 16))) = true
  · rw [hp]; rfl
  · rw [Bool.not_eq_true] at hp
    have hl : ¬ l.length > 16 := fun e => by rw [decide_eq_true e] at hp; simp at hp
    rw [hp]
    simp only [cond_false]
    unfold c_spec_BoardFault_w_0
    refine (srch (l_spec_BoardFault_w_0 N l fr cp b (k 1) (k 0)) l.length (dvBad l) (k 1) (k 0) (fun f i hi => ?_) (fun f => ?_) (by omega)).trans (cond_app _ k 1 0)
    · obtain ⟨x, hx⟩ := nth_some hi
      simp only [l_spec_BoardFault_w_0, s_spec_BoardFault_w_0, dec_lt hi, dec_nn, Int.toNat_natCast, elemK_some hx, wrap_next hi (by omega), Bool.and_true, cond_true, dvBad, hx]
      by_cases h0 : 0 < i
      · obtain ⟨y, hy⟩ := nth_some (l := l) (n := i - 1) (by omega)
        simp only [wrap_prev h0 (by omega), Int.toNat_natCast, elemK_some hy, prevIs, hy, dec_nn, dec_lt (show i - 1 < l.length by omega), decide_eq_true h0, decide_eq_true (show (i : Int) > 0 by omega), Bool.and_true, cond_true, cond_somes, oK_some_eq, Bool.true_and]
        refine congrArg (fun c => cond c _ _) ?_
        rw [Bool.eq_iff_iff]
        simp [dvB]
        omega
      · have h00 : i = 0 := by omega
        subst h00
        simp only [prevIs, decide_eq_false (show ¬ (0 : Nat) < 0 by omega), decide_eq_false (show ¬ ((0 : Nat) : Int) > 0 by omega), cond_somes, oK_some_eq, cond_false, Bool.false_and]
        refine congrArg (fun c => cond c _ _) ?_
        rw [Bool.eq_iff_iff]
        simp [dvB]
        omega
    · simp only [l_spec_BoardFault_w_0, s_spec_BoardFault_w_0, dec_nlt, cond_false]

theorem markText_loop (k : ByteArray → Option R) : ∀ (f f' : Nat) (n : Int) (s : ByteArray), 0 ≤ n → n < 10 ^ f → n < 2 ^ 60 → f < f' → s.size + f ≤ 1000 → l_laws_markText_0 N k f' n s = k (mtGo f n s) := by
  intro f
  induction f with
  | zero =>
    intro f' n s h0 h1 _ hf hs
    obtain ⟨f', rfl⟩ : ∃ j, f' = j + 1 := ⟨f' - 1, by omega⟩
    have : n = 0 := by simp at h1; omega
    subst this
    rfl
  | succ f ih =>
    intro f' n s h0 h1 h2 hf hs
    obtain ⟨f', rfl⟩ : ∃ j, f' = j + 1 := ⟨f' - 1, by omega⟩
    unfold mtGo
    by_cases hn : 0 < n
    · have hd : n.tdiv 10 = n / 10 := Int.tdiv_eq_ediv_of_nonneg h0
      have hsz : (toBytes [IntKind.wrap .u8 (IntKind.wrap .i64 (48 + Int.tmod n 10))]).size = 1 := toBytes_size _
      rw [Int.pow_succ] at h1
      simp only [l_laws_markText_0, s_laws_markText_0, decide_eq_true (show n > 0 from hn), seg_all, hsz, ble_t (show 1 + s.size ≤ 9223372036854775807 by omega), cond_true, hd, w64 (show -9223372036854775808 ≤ n / 10 by omega) (show n / 10 < 9223372036854775808 by omega)]
      rw [if_pos hn]
      refine ih f' (n / 10) _ (by omega) (by omega) (by omega) (by omega) ?_
      rw [ByteArray.size_append, hsz]; omega
    · have : n = 0 := by omega
      subst this
      rw [if_neg hn]
      rfl

theorem markText_eq {n : Int} (h1 : 1 ≤ n) (h2 : n < 2 ^ 60) (hN : 2 ^ 40 < N) (k : ByteArray → Option R) : g_laws_markText N n k = k (mt n) := by
  unfold g_laws_markText c_laws_markText_0
  rw [decide_eq_false (by omega), cond_false, markText_loop N _ 20 N n _ (by omega) (Int.lt_trans h2 (by decide)) h2 (by omega) (by decide)]
  have := mtGo_size 20 n ⟨[].toArray⟩
  have h0 : (⟨[].toArray⟩ : ByteArray).size = 0 := rfl
  rw [ble_t (show 1 + (mtGo 20 n ⟨[].toArray⟩).size ≤ 9223372036854775807 by omega)]
  rfl

def rowDevice (k : Int) : Device := ⟨k, k + 1, k + 2⟩

def rowsDevice (k : Int) (n : Nat) : List Device := (List.range n).map fun (i : Nat) => rowDevice (k + 3 * (i : Int))

theorem nth_rowsDevice (k : Int) {n i : Nat} (h : i < n) : nth (rowsDevice k n) i = some (rowDevice (k + 3 * (i : Int))) := by
  unfold rowsDevice
  rw [nth_map, nth_eq, List.getElem?_range h]
  rfl

theorem rowsDevice_length (k : Int) (n : Nat) : (rowsDevice k n).length = n := by simp [rowsDevice]

theorem laws_markDeviceS_w_eq {l : List Device} {b : Bool} {k : Int} (hl : l.length ≤ 2 ^ 40) (hk : 1 ≤ k) (hk2 : k ≤ 2 ^ 50) (hN : 2 ^ 40 < N) (K : Int → List Device → Option R) : g_laws_markDeviceS_w N b k l K = K (k + 3 * (l.length : Int)) (rowsDevice k l.length) := by
  unfold g_laws_markDeviceS_w c_laws_markDeviceS_w_0
  obtain ⟨h1, h2, h3, h4⟩ := fold (fun f i (s : Int × List Device) => l_laws_markDeviceS_w_0 N b (fun n l => K n l) f s.1 i s.2) l.length (fun i s => (s.1 + 3, nset s.2 i (rowDevice s.1))) (fun i s => s.1 = k + 3 * (i : Int) ∧ s.2.length = l.length ∧ ∀ j : Nat, j < i → nth s.2 j = some (rowDevice (k + 3 * (j : Int)))) (fun s => K s.1 s.2)
    (fun f i s0 hi hs => by
      obtain ⟨s, ys⟩ := s0
      obtain ⟨hs1, hs2, hs3⟩ := hs
      dsimp only at hs1 hs2 hs3
      obtain ⟨x, hx⟩ := nth_some (l := ys) (n := i) (by omega)
      have e1 : IntKind.wrap .i64 (s + 1) = s + 1 := by rw [w64 (by omega) (by omega)]
      have e2 : IntKind.wrap .i64 (s + 1 + 1) = s + 2 := by rw [w64 (by omega) (by omega)]; omega
      have e3 : IntKind.wrap .i64 (s + 2 + 1) = s + 3 := by rw [w64 (by omega) (by omega)]; omega
      refine ⟨?_, by dsimp only; omega, by simpa using hs2, fun j hj => ?_⟩
      · simp only [l_laws_markDeviceS_w_0, s_laws_markDeviceS_w_0, dec_lt hi, dec_lt (show i < ys.length by omega), dec_nn, Int.toNat_natCast, hs2, nset_length, elemK_some hx, elemK_nset (show i < ys.length by omega), nset_nset, blt_t hi, blt_t (show i < ys.length by omega), wrap_next hi (by omega), Bool.and_true, cond_true, e1, e2, e3]
        rfl
      · dsimp only
        rw [nth_nset]
        split
        · rename_i hc; obtain ⟨rfl, _⟩ := hc; rw [hs1]
        · rename_i hc; exact hs3 j (by have : j ≠ i := fun e => hc ⟨e, by omega⟩; omega))
    (fun f s0 hs => by
      obtain ⟨s, ys⟩ := s0
      obtain ⟨hs1, hs2, hs3⟩ := hs
      dsimp only at hs2
      simp only [l_laws_markDeviceS_w_0, s_laws_markDeviceS_w_0, hs2, dec_nlt, cond_false]) (s := (k, l)) ⟨by simp, rfl, fun j hj => by omega⟩ (f := N) (by omega)
  refine h1.trans ?_
  rw [h2]
  congr 1
  refine ext_nth fun j => ?_
  rcases Nat.lt_or_ge j l.length with hj | hj
  · rw [h4 j hj, nth_rowsDevice k hj]
  · rw [nth_none (by rw [h3]; exact hj), nth_none (by rw [rowsDevice_length]; exact hj)]

def rowFirmTable (k : Int) : FirmTable := ⟨mt (k), k + 1, mt (k + 2)⟩

def rowsFirmTable (k : Int) (n : Nat) : List FirmTable := (List.range n).map fun (i : Nat) => rowFirmTable (k + 3 * (i : Int))

theorem nth_rowsFirmTable (k : Int) {n i : Nat} (h : i < n) : nth (rowsFirmTable k n) i = some (rowFirmTable (k + 3 * (i : Int))) := by
  unfold rowsFirmTable
  rw [nth_map, nth_eq, List.getElem?_range h]
  rfl

theorem rowsFirmTable_length (k : Int) (n : Nat) : (rowsFirmTable k n).length = n := by simp [rowsFirmTable]

theorem laws_markFirmTableS_w_eq {l : List FirmTable} {b : Bool} {k : Int} (hl : l.length ≤ 2 ^ 40) (hk : 1 ≤ k) (hk2 : k ≤ 2 ^ 50) (hN : 2 ^ 40 < N) (K : Int → List FirmTable → Option R) : g_laws_markFirmTableS_w N b k l K = K (k + 3 * (l.length : Int)) (rowsFirmTable k l.length) := by
  unfold g_laws_markFirmTableS_w c_laws_markFirmTableS_w_0
  obtain ⟨h1, h2, h3, h4⟩ := fold (fun f i (s : Int × List FirmTable) => l_laws_markFirmTableS_w_0 N b (fun n l => K n l) f s.1 i s.2) l.length (fun i s => (s.1 + 3, nset s.2 i (rowFirmTable s.1))) (fun i s => s.1 = k + 3 * (i : Int) ∧ s.2.length = l.length ∧ ∀ j : Nat, j < i → nth s.2 j = some (rowFirmTable (k + 3 * (j : Int)))) (fun s => K s.1 s.2)
    (fun f i s0 hi hs => by
      obtain ⟨s, ys⟩ := s0
      obtain ⟨hs1, hs2, hs3⟩ := hs
      dsimp only at hs1 hs2 hs3
      obtain ⟨x, hx⟩ := nth_some (l := ys) (n := i) (by omega)
      have e1 : IntKind.wrap .i64 (s + 1) = s + 1 := by rw [w64 (by omega) (by omega)]
      have e2 : IntKind.wrap .i64 (s + 1 + 1) = s + 2 := by rw [w64 (by omega) (by omega)]; omega
      have e3 : IntKind.wrap .i64 (s + 2 + 1) = s + 3 := by rw [w64 (by omega) (by omega)]; omega
      have m0 : ∀ K : ByteArray → Option R, g_laws_markText N (s) K = K (mt (s)) := fun K => markText_eq N (by omega) (by omega) hN K
      have m2 : ∀ K : ByteArray → Option R, g_laws_markText N (s + 2) K = K (mt (s + 2)) := fun K => markText_eq N (by omega) (by omega) hN K
      refine ⟨?_, by dsimp only; omega, by simpa using hs2, fun j hj => ?_⟩
      · simp only [l_laws_markFirmTableS_w_0, s_laws_markFirmTableS_w_0, dec_lt hi, dec_lt (show i < ys.length by omega), dec_nn, Int.toNat_natCast, hs2, nset_length, elemK_some hx, elemK_nset (show i < ys.length by omega), nset_nset, blt_t hi, blt_t (show i < ys.length by omega), wrap_next hi (by omega), Bool.and_true, cond_true, e1, e2, e3, m0, m2]
        rfl
      · dsimp only
        rw [nth_nset]
        split
        · rename_i hc; obtain ⟨rfl, _⟩ := hc; rw [hs1]
        · rename_i hc; exact hs3 j (by have : j ≠ i := fun e => hc ⟨e, by omega⟩; omega))
    (fun f s0 hs => by
      obtain ⟨s, ys⟩ := s0
      obtain ⟨hs1, hs2, hs3⟩ := hs
      dsimp only at hs2
      simp only [l_laws_markFirmTableS_w_0, s_laws_markFirmTableS_w_0, hs2, dec_nlt, cond_false]) (s := (k, l)) ⟨by simp, rfl, fun j hj => by omega⟩ (f := N) (by omega)
  refine h1.trans ?_
  rw [h2]
  congr 1
  refine ext_nth fun j => ?_
  rcases Nat.lt_or_ge j l.length with hj | hj
  · rw [h4 j hj, nth_rowsFirmTable k hj]
  · rw [nth_none (by rw [h3]; exact hj), nth_none (by rw [rowsFirmTable_length]; exact hj)]

theorem laws_heldFirmTableS_w_eq {n : Nat} {b : Bool} {k : Int} (hl : n ≤ 2 ^ 40) (hk : 1 ≤ k) (hk2 : k ≤ 2 ^ 50) (hN : 2 ^ 40 < N) (K : Int → Option R) : g_laws_heldFirmTableS_w N b k (rowsFirmTable k n) K = K (k + 3 * (n : Int)) := by
  unfold g_laws_heldFirmTableS_w c_laws_heldFirmTableS_w_0
  obtain ⟨h1, h2⟩ := fold (fun f i (s : Int) => l_laws_heldFirmTableS_w_0 N b (rowsFirmTable k n) (fun _ => K (-1)) (fun n => K n) f s i) n (fun _ s => s + 3) (fun i s => s = k + 3 * (i : Int)) (fun s => K s)
    (fun f i s hi hs => by
      have hr : rowFirmTable (k + 3 * (i : Int)) = rowFirmTable s := by rw [hs]
      have hx : nth (rowsFirmTable k n) i = some (rowFirmTable s) := by rw [nth_rowsFirmTable k hi, hr]
      have e1 : IntKind.wrap .i64 (s + 1) = s + 1 := by rw [w64 (by omega) (by omega)]
      have e2 : IntKind.wrap .i64 (s + 1 + 1) = s + 2 := by rw [w64 (by omega) (by omega)]; omega
      have e3 : IntKind.wrap .i64 (s + 2 + 1) = s + 3 := by rw [w64 (by omega) (by omega)]; omega
      have m0 : ∀ K : ByteArray → Option R, g_laws_markText N (s) K = K (mt (s)) := fun K => markText_eq N (by omega) (by omega) hN K
      have m2 : ∀ K : ByteArray → Option R, g_laws_markText N (s + 2) K = K (mt (s + 2)) := fun K => markText_eq N (by omega) (by omega) hN K
      refine ⟨?_, by omega⟩
      simp only [l_laws_heldFirmTableS_w_0, s_laws_heldFirmTableS_w_0, rowsFirmTable_length, dec_lt hi, dec_nn, Int.toNat_natCast, elemK_some hx, rowFirmTable, bne_self_eq_false, beq_self_eq_true, decide_true, Bool.not_true, cond_false, wrap_next hi (by omega), Bool.and_true, cond_true, e1, e2, e3, m0, m2])
    (fun f s hs => by
      simp only [l_laws_heldFirmTableS_w_0, s_laws_heldFirmTableS_w_0, rowsFirmTable_length, dec_nlt, cond_false]) (s := k) (by simp) (f := N) (by omega)
  refine h1.trans ?_
  rw [h2]

def devWord (x : Device) : Int := IntKind.wrap .i64 (IntKind.wrap .i64 (IntKind.wrap .i64 (x.fKind * 16777216) + IntKind.wrap .i64 (x.fLine * 65536)) + x.fPort)

def devWords (l : List Device) : ByteArray := l.foldl (fun s x => s ++ putWord (devWord x)) ⟨[].toArray⟩

def tables (fr cp : Int) (l : List Device) : List FirmTable := cond (boardFault fr cp l != 0) []
  [⟨⟨[(77 : UInt8), (69 : UInt8), (77 : UInt8), (79 : UInt8)].toArray⟩, 1, putWord fr⟩, ⟨⟨[(67 : UInt8), (80 : UInt8), (85 : UInt8), (83 : UInt8)].toArray⟩, 1, putWord cp⟩, ⟨⟨[(68 : UInt8), (69 : UInt8), (86 : UInt8), (83 : UInt8)].toArray⟩, 1, devWords l⟩]

theorem boardFault_len {fr cp : Int} {l : List Device} (h : (boardFault fr cp l != 0) = false) : l.length ≤ 16 := by
  unfold boardFault at h
  rcases Nat.lt_or_ge 16 l.length with hl | hl
  · rw [decide_eq_true (show l.length > 16 from hl)] at h
    simp at h
  · exact hl

theorem impl_TablesOf_eq {fr cp : Int} {l : List Device} {b : Bool} (hN : 2 ^ 40 < N) (k : Bool → List FirmTable → Option R) : g_impl_TablesOf_w N fr cp b l k = k (boardFault fr cp l != 0) (tables fr cp l) := by
  unfold g_impl_TablesOf_w tables
  rw [impl_BoardFault_eq N hN]
  by_cases h : (boardFault fr cp l != 0) = true
  · rw [h]; rfl
  · rw [Bool.not_eq_true] at h
    have hl := boardFault_len h
    rw [h]
    simp only [cond_false]
    unfold c_impl_TablesOf_w_0
    have h1 := fold (fun f i s => l_impl_TablesOf_w_0 N b l.length l fr cp b (fun s2 => g_impl_PutWord N fr fun s3 => g_impl_PutWord N cp fun s4 => k false [⟨⟨[(77 : UInt8), (69 : UInt8), (77 : UInt8), (79 : UInt8)].toArray⟩, 1, s3⟩, ⟨⟨[(67 : UInt8), (80 : UInt8), (85 : UInt8), (83 : UInt8)].toArray⟩, 1, s4⟩, ⟨⟨[(68 : UInt8), (69 : UInt8), (86 : UInt8), (83 : UInt8)].toArray⟩, 1, s2⟩]) f s i) l.length (fun i s => atD l i (fun x => s ++ putWord (devWord x)) s) (fun i s => s.size = 4 * i) _ (fun f i s hi hs => by
      obtain ⟨x, hx⟩ := nth_some hi
      simp only [l_impl_TablesOf_w_0, s_impl_TablesOf_w_0, dec_lt hi, dec_nn, Int.toNat_natCast, elemK_some hx, wrap_next hi (by omega), Bool.and_true, cond_true, impl_PutWord_eq, atD_some hx, ble_t (show s.size + (putWord (IntKind.wrap .i64 (IntKind.wrap .i64 (IntKind.wrap .i64 (x.fKind * 16777216) + IntKind.wrap .i64 (x.fLine * 65536)) + x.fPort))).size ≤ 9223372036854775807 by rw [putWord_size]; omega)]
      refine ⟨rfl, ?_⟩
      rw [ByteArray.size_append, putWord_size]; omega) (fun f s hs => by
      simp only [l_impl_TablesOf_w_0, s_impl_TablesOf_w_0, dec_nlt, cond_false]
      rfl) (s := ⟨[].toArray⟩) rfl (f := N) (by omega)
    rw [foldl_atD l (fun s x => s ++ putWord (devWord x))] at h1
    refine h1.1.trans ?_
    simp only [impl_PutWord_eq]
    rfl

theorem spec_TablesOf_eq {fr cp : Int} {l : List Device} {b : Bool} (hN : 2 ^ 40 < N) (k : List FirmTable → Option R) : g_spec_TablesOf_w N fr cp b l k = k (tables fr cp l) := by
  unfold g_spec_TablesOf_w tables
  rw [spec_BoardFault_eq N hN]
  by_cases h : (boardFault fr cp l != 0) = true
  · rw [h]; rfl
  · rw [Bool.not_eq_true] at h
    have hl := boardFault_len h
    rw [h]
    simp only [cond_false]
    unfold c_spec_TablesOf_w_0
    have h1 := fold (fun f i s => l_spec_TablesOf_w_0 N l fr cp b (fun s2 => g_spec_PutWord N fr fun s3 => g_spec_PutWord N cp fun s4 => k [⟨⟨[(77 : UInt8), (69 : UInt8), (77 : UInt8), (79 : UInt8)].toArray⟩, 1, s3⟩, ⟨⟨[(67 : UInt8), (80 : UInt8), (85 : UInt8), (83 : UInt8)].toArray⟩, 1, s4⟩, ⟨⟨[(68 : UInt8), (69 : UInt8), (86 : UInt8), (83 : UInt8)].toArray⟩, 1, s2⟩]) f s i) l.length (fun i s => atD l i (fun x => s ++ putWord (devWord x)) s) (fun i s => s.size = 4 * i) _ (fun f i s hi hs => by
      obtain ⟨x, hx⟩ := nth_some hi
      simp only [l_spec_TablesOf_w_0, s_spec_TablesOf_w_0, dec_lt hi, dec_nn, Int.toNat_natCast, elemK_some hx, wrap_next hi (by omega), Bool.and_true, cond_true, spec_PutWord_eq, atD_some hx, ble_t (show s.size + (putWord (IntKind.wrap .i64 (IntKind.wrap .i64 (IntKind.wrap .i64 (x.fKind * 16777216) + IntKind.wrap .i64 (x.fLine * 65536)) + x.fPort))).size ≤ 9223372036854775807 by rw [putWord_size]; omega)]
      refine ⟨rfl, ?_⟩
      rw [ByteArray.size_append, putWord_size]; omega) (fun f s hs => by
      simp only [l_spec_TablesOf_w_0, s_spec_TablesOf_w_0, dec_nlt, cond_false]
      rfl) (s := ⟨[].toArray⟩) rfl (f := N) (by omega)
    rw [foldl_atD l (fun s x => s ++ putWord (devWord x))] at h1
    refine h1.1.trans ?_
    simp only [spec_PutWord_eq]
    rfl

theorem tables_length (fr cp : Int) (l : List Device) : (tables fr cp l).length ≤ 3 := by
  unfold tables
  cases (boardFault fr cp l != 0) <;> simp

theorem law_TablesOf {fr cp : Int} {l : List Device} {b : Bool} (hl : l.length ≤ maxLen) (hN : 2 ^ 40 < N) (k : Bool → Option R) : g_laws_FnExactTablesOf_r N fr cp b l k = k true := by
  unfold g_laws_FnExactTablesOf_r g_laws_szBoard_r
  rw [laws_szDeviceS_r_eq N hl]
  by_cases h : 1048576 < l.length
  · rw [decide_eq_true h]; rfl
  · rw [decide_eq_false h, cond_false, decide_eq_false (by omega)]
    have hl : l.length ≤ 2 ^ 40 := by omega
    have ht := tables_length fr cp l
    simp only [cond_false, decide_eq_false (show ¬ (1048576 - (l.length : Int) < 0) by omega), g_laws_toBoard_r, laws_toDeviceS_r_eq N hl hN, spec_TablesOf_eq N hN, impl_TablesOf_eq N hN,
      laws_eqFirmTableS_ww_eq N (show (tables fr cp l).length ≤ 2 ^ 40 by omega) hN, laws_eqFirmTableS_rr_eq N (show (tables fr cp l).length ≤ 2 ^ 40 by omega) hN, g_laws_eqBoard_rr, laws_eqDeviceS_rr_eq N hl hN, g_laws_markBoard_w, laws_markDeviceS_w_eq N hl (show (1 : Int) ≤ 1 by omega) (by omega) hN,
      laws_markFirmTableS_w_eq N (show (tables fr cp l).length ≤ 2 ^ 40 by omega) (show (1 : Int) ≤ 1 by omega) (by omega) hN, laws_heldFirmTableS_w_eq N (show (tables fr cp l).length ≤ 2 ^ 40 by omega) (show (1 : Int) ≤ 1 by omega) (by omega) hN,
      bne_self_eq_false, decide_true, Bool.not_true, oK_some_eq, decide_eq_false (show ¬ (1 + 3 * (l.length : Int) < 0) by omega), decide_eq_false (show ¬ (1 + 3 * ((tables fr cp l).length : Int) < 0) by omega)]

end
end Go.Sa
