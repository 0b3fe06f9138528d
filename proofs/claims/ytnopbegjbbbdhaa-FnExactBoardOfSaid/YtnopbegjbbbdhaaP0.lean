import Derived.Test.YtnopbegjbbbdhaaW1
set_option linter.all false
namespace Go.Sa
open Go Go.Eng
section
variable {R : Type} (N : Nat)

theorem laws_eqDevice_eq (x y : Device) (k : Bool → Option R) : g_laws_eqDevice N x.fKind x.fPort x.fLine y.fKind y.fPort y.fLine k = k (decide (x = y)) := by
  unfold g_laws_eqDevice
  by_cases h0 : x.fKind = y.fKind
  case neg =>
    rw [decide_eq_false (show ¬ x = y from fun e => h0 (by rw [e]))]
    simp only [bne_dec, beq_dec, h0, decide_false, Bool.not_false, cond_true]
  simp only [bne_dec, beq_dec, h0, decide_true, Bool.not_true, cond_false]
  by_cases h1 : x.fPort = y.fPort
  case neg =>
    rw [decide_eq_false (show ¬ x = y from fun e => h1 (by rw [e]))]
    simp only [bne_dec, beq_dec, h1, decide_false, Bool.not_false, cond_true]
  simp only [bne_dec, beq_dec, h1, decide_true, Bool.not_true, cond_false]
  by_cases h2 : x.fLine = y.fLine
  case neg =>
    rw [decide_eq_false (show ¬ x = y from fun e => h2 (by rw [e]))]
    simp only [bne_dec, beq_dec, h2, decide_false, Bool.not_false, cond_true]
  simp only [bne_dec, beq_dec, h2, decide_true, Bool.not_true, cond_false]
  rw [decide_eq_true (show x = y by cases x; cases y; simp_all)]

theorem laws_eqDeviceS_rr_eq {l m : List Device} {b b1 : Bool} (hl : l.length ≤ 2 ^ 40) (hN : 2 ^ 40 < N) (k : Bool → Option R) : g_laws_eqDeviceS_rr N b b1 l m k = k (decide (l = m)) := by
  unfold g_laws_eqDeviceS_rr
  by_cases h : l.length = m.length
  · rw [show ((l.length : Int) != (m.length : Int)) = false by simp [h]]
    unfold c_laws_eqDeviceS_rr_0
    refine (eql (l_laws_eqDeviceS_rr_0 N b b1 l m (k false) (k true)) l m h (k false) (k true) (fun f i x y hi hx hy => ?_) (fun f => ?_) (by omega)).trans ?_
    · simp only [l_laws_eqDeviceS_rr_0, s_laws_eqDeviceS_rr_0, dec_lt hi, dec_nn, Int.toNat_natCast, elemK_some hx, elemK_some hy, dec_lt (show i < m.length by omega), laws_eqDevice_eq, wrap_next hi (by omega), Bool.and_true, cond_true]
    · simp only [l_laws_eqDeviceS_rr_0, s_laws_eqDeviceS_rr_0, dec_nlt, cond_false]
    · cases decide (l = m) <;> rfl
  · rw [show ((l.length : Int) != (m.length : Int)) = true by simp; omega]
    rw [decide_eq_false (fun e => h (by rw [e]))]
    rfl

theorem laws_eqDeviceS_ww_eq {l m : List Device} {b b1 : Bool} (hl : l.length ≤ 2 ^ 40) (hN : 2 ^ 40 < N) (k : Bool → Option R) : g_laws_eqDeviceS_ww N b b1 l m k = k (decide (l = m)) := by
  unfold g_laws_eqDeviceS_ww
  by_cases h : l.length = m.length
  · rw [show ((l.length : Int) != (m.length : Int)) = false by simp [h]]
    unfold c_laws_eqDeviceS_ww_0
    refine (eql (l_laws_eqDeviceS_ww_0 N b b1 l m (k false) (k true)) l m h (k false) (k true) (fun f i x y hi hx hy => ?_) (fun f => ?_) (by omega)).trans ?_
    · simp only [l_laws_eqDeviceS_ww_0, s_laws_eqDeviceS_ww_0, dec_lt hi, dec_nn, Int.toNat_natCast, elemK_some hx, elemK_some hy, dec_lt (show i < m.length by omega), laws_eqDevice_eq, wrap_next hi (by omega), Bool.and_true, cond_true]
    · simp only [l_laws_eqDeviceS_ww_0, s_laws_eqDeviceS_ww_0, dec_nlt, cond_false]
    · cases decide (l = m) <;> rfl
  · rw [show ((l.length : Int) != (m.length : Int)) = true by simp; omega]
    rw [decide_eq_false (fun e => h (by rw [e]))]
    rfl

@[simp] theorem laws_toFirmTable_eq (a0 : ByteArray) (a1 : Int) (a2 : ByteArray) (k : Option R) : g_laws_toFirmTable N a0 a1 a2 k = k := rfl

theorem laws_toFirmTableS_r_eq {l : List FirmTable} {b : Bool} (hl : l.length ≤ 2 ^ 40) (hN : 2 ^ 40 < N) (k : List FirmTable → Option R) : g_laws_toFirmTableS_r N b l k = k l := by
  unfold g_laws_toFirmTableS_r
  rw [Int.toNat_natCast, room (by omega) (by omega), dec_self]
  unfold c_laws_toFirmTableS_r_0
  refine (copyl (l_laws_toFirmTableS_r_0 N b false l (fun l4 => k l4)) l (fun x => x) k (fun f i ys x hi hy hx => ?_) (fun f ys hy => ?_) (by simp) (by omega)).trans (by rw [List.map_id'])
  · obtain ⟨y, hy1⟩ := nth_some (l := ys) (n := i) (by omega)
    simp only [l_laws_toFirmTableS_r_0, s_laws_toFirmTableS_r_0, laws_toFirmTable_eq, dec_lt hi, dec_nn, Int.toNat_natCast, elemK_some hx, elemK_some hy1, dec_lt (show i < ys.length by omega), blt_t (show i < ys.length by omega), wrap_next hi (by omega), Bool.and_true, cond_true]
  · simp only [l_laws_toFirmTableS_r_0, s_laws_toFirmTableS_r_0, dec_nlt, cond_false]

theorem laws_eqFirmTable_eq (x y : FirmTable) (k : Bool → Option R) : g_laws_eqFirmTable N x.fName x.fRev x.fBody y.fName y.fRev y.fBody k = k (decide (x = y)) := by
  unfold g_laws_eqFirmTable
  by_cases h0 : x.fName = y.fName
  case neg =>
    rw [decide_eq_false (show ¬ x = y from fun e => h0 (by rw [e]))]
    simp only [bne_dec, beq_dec, h0, decide_false, Bool.not_false, cond_true]
  simp only [bne_dec, beq_dec, h0, decide_true, Bool.not_true, cond_false]
  by_cases h1 : x.fRev = y.fRev
  case neg =>
    rw [decide_eq_false (show ¬ x = y from fun e => h1 (by rw [e]))]
    simp only [bne_dec, beq_dec, h1, decide_false, Bool.not_false, cond_true]
  simp only [bne_dec, beq_dec, h1, decide_true, Bool.not_true, cond_false]
  by_cases h2 : x.fBody = y.fBody
  case neg =>
    rw [decide_eq_false (show ¬ x = y from fun e => h2 (by rw [e]))]
    simp only [bne_dec, beq_dec, h2, decide_false, Bool.not_false, cond_true]
  simp only [bne_dec, beq_dec, h2, decide_true, Bool.not_true, cond_false]
  rw [decide_eq_true (show x = y by cases x; cases y; simp_all)]

theorem laws_eqFirmTableS_ww_eq {l m : List FirmTable} {b b1 : Bool} (hl : l.length ≤ 2 ^ 40) (hN : 2 ^ 40 < N) (k : Bool → Option R) : g_laws_eqFirmTableS_ww N b b1 l m k = k (decide (l = m)) := by
  unfold g_laws_eqFirmTableS_ww
  by_cases h : l.length = m.length
  · rw [show ((l.length : Int) != (m.length : Int)) = false by simp [h]]
    unfold c_laws_eqFirmTableS_ww_0
    refine (eql (l_laws_eqFirmTableS_ww_0 N b b1 l m (k false) (k true)) l m h (k false) (k true) (fun f i x y hi hx hy => ?_) (fun f => ?_) (by omega)).trans ?_
    · simp only [l_laws_eqFirmTableS_ww_0, s_laws_eqFirmTableS_ww_0, dec_lt hi, dec_nn, Int.toNat_natCast, elemK_some hx, elemK_some hy, dec_lt (show i < m.length by omega), laws_eqFirmTable_eq, wrap_next hi (by omega), Bool.and_true, cond_true]
    · simp only [l_laws_eqFirmTableS_ww_0, s_laws_eqFirmTableS_ww_0, dec_nlt, cond_false]
    · cases decide (l = m) <;> rfl
  · rw [show ((l.length : Int) != (m.length : Int)) = true by simp; omega]
    rw [decide_eq_false (fun e => h (by rw [e]))]
    rfl

@[simp] theorem impl_yin_eq (a lo hi : Int) (k : Bool → Option R) : g_impl_yin N a lo hi k = k (decide (a ≥ lo) && decide (a ≤ hi)) := by
  simp [g_impl_yin]

def word (n : Int) : Int := n % 4294967296

def putWord (n : Int) : ByteArray := toBytes [word n % 256, word n / 256 % 256, word n / 65536 % 256, word n / 16777216 % 256]

theorem putWord_size (n : Int) : (putWord n).size = 4 := toBytes_size _

theorem impl_PutWord_eq (n : Int) (k : ByteArray → Option R) : g_impl_PutWord N n k = k (putWord n) := by
  simp only [g_impl_PutWord, wu8, wu32, fdiv_lit _ (show (0 : Int) ≤ 256 by omega), fdiv_lit _ (show (0 : Int) ≤ 65536 by omega), fdiv_lit _ (show (0 : Int) ≤ 16777216 by omega), seg_all]
  rfl

theorem spec_l01Mod_eq {n m : Int} (hm : 0 < m) (hm2 : m ≤ 2 ^ 62) (k : Int → Option R) : g_spec_l01Mod N n m k = k (n % m) := by
  unfold g_spec_l01Mod
  obtain ⟨h1, h2⟩ := tmod_bound (n := n) hm
  rw [show (m == 0) = false by rw [beq_dec]; exact decide_eq_false (by omega), ← tmod_add (n := n) hm]
  by_cases h : n.tmod m < 0
  · rw [decide_eq_true h, if_pos h, w64 (by omega) (by omega)]; rfl
  · rw [decide_eq_false h, if_neg h]; rfl

theorem spec_Word_eq (n : Int) (k : Int → Option R) : g_spec_Word N n k = k (word n) := by
  unfold g_spec_Word
  rw [spec_l01Mod_eq N (by omega) (by omega)]
  rfl

theorem spec_PutWord_eq (n : Int) (k : ByteArray → Option R) : g_spec_PutWord N n k = k (putWord n) := by
  simp only [g_spec_PutWord, spec_Word_eq, wu8, fdiv_lit _ (show (0 : Int) ≤ 256 by omega), fdiv_lit _ (show (0 : Int) ≤ 65536 by omega), fdiv_lit _ (show (0 : Int) ≤ 16777216 by omega), seg_all]
  rfl


def dvB (x : Device) (p : Bool) : Bool :=
  !(decide (x.fKind ≥ 1) && decide (x.fKind ≤ 255)) || (!(decide (x.fPort ≥ 0) && decide (x.fPort ≤ 2047)) || (!(decide (x.fLine ≥ 0) && decide (x.fLine ≤ 6)) || p))

def dvBad (l : List Device) (i : Nat) : Bool :=
  match nth l i with
  | none => true
  | some x => dvB x (prevIs (fun y x => decide (y.fPort ≥ x.fPort)) l i x)

def boardFault (fr cp : Int) (l : List Device) : Int :=
  cond (!(decide (fr ≥ 2) && decide (fr ≤ 256)) || (!(decide (cp ≥ 1) && decide (cp ≤ 8)) || decide (l.length > 16))) 1 (cond ((List.range l.length).any (dvBad l)) 1 0)

theorem impl_BoardFault_eq {fr cp : Int} {l : List Device} {b : Bool} (hN : 2 ^ 40 < N) (k : Int → Option R) : g_impl_BoardFault_w N fr cp b l k = k (boardFault fr cp l) := by
  unfold g_impl_BoardFault_w boardFault
  have hg : decide ((l.length : Int) > 16) = decide (l.length > 16) := decide_eq_decide.2 (by omega)
  simp only [hg, impl_yin_eq, cond_somes, oK_some_eq, Bool.cond_true_left]
  by_cases hp : (!(decide (fr ≥ 2) && decide (fr ≤ 256)) || (!(decide (cp ≥ 1) && decide (cp ≤ 8)) || decide (l.length > 16))) = true
  · rw [hp]; rfl
  · rw [Bool.not_eq_true] at hp
    have hl : ¬ l.length > 16 := fun e => by rw [decide_eq_true e] at hp; simp at hp
    rw [hp]
    simp only [cond_false]
    unfold c_impl_BoardFault_w_0
    refine (srch (l_impl_BoardFault_w_0 N b l.length l fr cp b (k 1) (k 0)) l.length (dvBad l) (k 1) (k 0) (fun f i hi => ?_) (fun f => ?_) (by omega)).trans (cond_app _ k 1 0)
    · obtain ⟨x, hx⟩ := nth_some hi
      simp only [l_impl_BoardFault_w_0, s_impl_BoardFault_w_0, dec_lt hi, dec_nn, Int.toNat_natCast, elemK_some hx, wrap_next hi (by omega), Bool.and_true, cond_true, dvBad, hx]
      by_cases h0 : 0 < i
      · obtain ⟨y, hy⟩ := nth_some (l := l) (n := i - 1) (by omega)
        simp only [wrap_prev h0 (by omega), Int.toNat_natCast, elemK_some hy, prevIs, hy, dec_nn, dec_lt (show i - 1 < l.length by omega), decide_eq_true h0, decide_eq_true (show (i : Int) > 0 by omega), impl_yin_eq, Bool.and_true, cond_true, cond_somes, oK_some_eq, Bool.true_and]
        refine congrArg (fun c => cond c _ _) ?_
        rw [Bool.eq_iff_iff]
        simp [dvB]
      · have h00 : i = 0 := by omega
        subst h00
        simp only [prevIs, decide_eq_false (show ¬ (0 : Nat) < 0 by omega), decide_eq_false (show ¬ ((0 : Nat) : Int) > 0 by omega), impl_yin_eq, cond_somes, oK_some_eq, cond_false, Bool.false_and]
        refine congrArg (fun c => cond c _ _) ?_
        rw [Bool.eq_iff_iff]
        simp [dvB]
    · simp only [l_impl_BoardFault_w_0, s_impl_BoardFault_w_0, dec_nlt, cond_false]

theorem spec_BoardFault_eq {fr cp : Int} {l : List Device} {b : Bool} (hN : 2 ^ 40 < N) (k : Int → Option R) : g_spec_BoardFault_w N fr cp b l k = k (boardFault fr cp l) := by
  unfold g_spec_BoardFault_w boardFault
  have hg : decide ((l.length : Int) > 16) = decide (l.length > 16) := decide_eq_decide.2 (by omega)
  have hq : (decide (fr < 2) || (decide (fr > 256) || (decide (cp < 1) || (decide (cp > 8) || decide (l.length > 16))))) = (!(decide (fr ≥ 2) && decide (fr ≤ 256)) || (!(decide (cp ≥ 1) && decide (cp ≤ 8)) || decide (l.length > 16))) := by
    rw [Bool.eq_iff_iff]; simp; omega
  simp only [hg, cond_somes, oK_some_eq, Bool.cond_true_left, hq]
  by_cases hp : (!(decide (fr ≥ 2) && decide (fr ≤ 256)) || (!(decide (cp ≥ 1) && decide (cp ≤ 8)) || decide (l.length > 16))) = true
  · rw [hp]; rfl
  · rw [Bool.not_eq_true] at hp
    have hl : ¬ l.length > 16 := fun e => by rw [decide_eq_true e] at hp; simp at hp
    rw [hp]
    simp only [cond_false]
    unfold c_spec_BoardFault_w_0
    refine (srch (l_spec_BoardFault_w_0 N l fr cp b (k 1) (k 0)) l.length (dvBad l) (k 1) (k 0) (fun f i hi => ?_) (fun f => ?_) (by omega)).trans (cond_app _ k 1 0)
    · obtain ⟨x, hx⟩ := nth_some hi
      simp only [l_spec_BoardFault_w_0, s_spec_BoardFault_w_0, dec_lt hi, dec_nn, Int.toNat_natCast, elemK_some hx, wrap_next hi (by omega), Bool.and_true, cond_true, dvBad, hx]
      by_cases h0 : 0 < i
      · obtain ⟨y, hy⟩ := nth_some (l := l) (n := i - 1) (by omega)
        simp only [wrap_prev h0 (by omega), Int.toNat_natCast, elemK_some hy, prevIs, hy, dec_nn, dec_lt (show i - 1 < l.length by omega), decide_eq_true h0, decide_eq_true (show (i : Int) > 0 by omega), Bool.and_true, cond_true, cond_somes, oK_some_eq, Bool.true_and]
        refine congrArg (fun c => cond c _ _) ?_
        rw [Bool.eq_iff_iff]
        simp [dvB]
        omega
      · have h00 : i = 0 := by omega
        subst h00
        simp only [prevIs, decide_eq_false (show ¬ (0 : Nat) < 0 by omega), decide_eq_false (show ¬ ((0 : Nat) : Int) > 0 by omega), cond_somes, oK_some_eq, cond_false, Bool.false_and]
        refine congrArg (fun c => cond c _ _) ?_
        rw [Bool.eq_iff_iff]
        simp [dvB]
        omega
    · simp only [l_spec_BoardFault_w_0, s_spec_BoardFault_w_0, dec_nlt, cond_false]

theorem markText_loop (k : ByteArray → Option R) : ∀ (f f' : Nat) (n : Int) (s : ByteArray), 0 ≤ n → n < 10 ^ f → n < 2 ^ 60 → f < f' → s.size + f ≤ 1000 → l_laws_markText_0 N k f' n s = k (mtGo f n s) := by
  intro f
  induction f with
  | zero =>
    intro f' n s h0 h1 _ hf hs
    obtain ⟨f', rfl⟩ : ∃ j, f' = j + 1 := ⟨f' - 1, by omega⟩
    have : n = 0 := by simp at h1; omega
    subst this
    rfl
  | succ f ih =>
    intro f' n s h0 h1 h2 hf hs
    obtain ⟨f', rfl⟩ : ∃ j, f' = j + 1 := ⟨f' - 1, by omega⟩
    unfold mtGo
    by_cases hn : 0 < n
    · have hd : n.tdiv 10 = n / 10 := Int.tdiv_eq_ediv_of_nonneg h0
      have hsz : (toBytes [IntKind.wrap .u8 (IntKind.wrap .i64 (48 + Int.tmod n 10))]).size = 1 := toBytes_size _
      rw [Int.pow_succ] at h1
      simp only [l_laws_markText_0, s_laws_markText_0, decide_eq_true (show n > 0 from hn), seg_all, hsz, ble_t (show 1 + s.size ≤ 9223372036854775807 by omega), cond_true, hd, w64 (show -9223372036854775808 ≤ n / 10 by omega) (show n / 10 < 9223372036854775808 by omega)]
      rw [if_pos hn]
      refine ih f' (n / 10) _ (by omega) (by omega) (by omega) (by omega) ?_
      rw [ByteArray.size_append, hsz]; omega
    · have : n = 0 := by omega
      subst this
      rw [if_neg hn]
      rfl

theorem markText_eq {n : Int} (h1 : 1 ≤ n) (h2 : n < 2 ^ 60) (hN : 2 ^ 40 < N) (k : ByteArray → Option R) : g_laws_markText N n k = k (mt n) := by
  unfold g_laws_markText c_laws_markText_0
  rw [decide_eq_false (by omega), cond_false, markText_loop N _ 20 N n _ (by omega) (Int.lt_trans h2 (by decide)) h2 (by omega) (by decide)]
  have := mtGo_size 20 n ⟨[].toArray⟩
  have h0 : (⟨[].toArray⟩ : ByteArray).size = 0 := rfl
  rw [ble_t (show 1 + (mtGo 20 n ⟨[].toArray⟩).size ≤ 9223372036854775807 by omega)]
  rfl

def rowDevice (k : Int) : Device := ⟨k, k + 1, k + 2⟩

def rowsDevice (k : Int) (n : Nat) : List Device := (List.range n).map fun (i : Nat) => rowDevice (k + 3 * (i : Int))

theorem nth_rowsDevice (k : Int) {n i : Nat} (h : i < n) : nth (rowsDevice k n) i = some (rowDevice (k + 3 * (i : Int))) := by
  unfold rowsDevice
  rw [nth_map, nth_eq, List.getElem?_range h]
  rfl

theorem rowsDevice_length (k : Int) (n : Nat) : (rowsDevice k n).length = n := by simp [rowsDevice]

theorem laws_markDeviceS_w_eq {l : List Device} {b : Bool} {k : Int} (hl : l.length ≤ 2 ^ 40) (hk : 1 ≤ k) (hk2 : k ≤ 2 ^ 50) (hN : 2 ^ 40 < N) (K : Int → List Device → Option R) : g_laws_markDeviceS_w N b k l K = K (k + 3 * (l.length : Int)) (rowsDevice k l.length) := by
  unfold g_laws_markDeviceS_w c_laws_markDeviceS_w_0
  obtain ⟨h1, h2, h3, h4⟩ := fold (fun f i (s : Int × List Device) => l_laws_markDeviceS_w_0 N b (fun n l => K n l) f s.1 i s.2) l.length (fun i s => (s.1 + 3, nset s.2 i (rowDevice s.1))) (fun i s => s.1 = k + 3 * (i : Int) ∧ s.2.length = l.length ∧ ∀ j : Nat, j < i → nth s.2 j = some (rowDevice (k + 3 * (j : Int)))) (fun s => K s.1 s.2)
    (fun f i s0 hi hs => by
      obtain ⟨s, ys⟩ := s0
      obtain ⟨hs1, hs2, hs3⟩ := hs
      dsimp only at hs1 hs2 hs3
      obtain ⟨x, hx⟩ := nth_some (l := ys) (n := i) (by omega)
      have e1 : IntKind.wrap .i64 (s + 1) = s + 1 := by rw [w64 (by omega) (by omega)]
      have e2 : IntKind.wrap .i64 (s + 1 + 1) = s + 2 := by rw [w64 (by omega) (by omega)]; omega
      have e3 : IntKind.wrap .i64 (s + 2 + 1) = s + 3 := by rw [w64 (by omega) (by omega)]; omega
      refine ⟨?_, by dsimp only; omega, by simpa using hs2, fun j hj => ?_⟩
      · simp only [l_laws_markDeviceS_w_0, s_laws_markDeviceS_w_0, dec_lt hi, dec_lt (show i < ys.length by omega), dec_nn, Int.toNat_natCast, hs2, nset_length, elemK_some hx, elemK_nset (show i < ys.length by omega), nset_nset, blt_t hi, blt_t (show i < ys.length by omega), wrap_next hi (by omega), Bool.and_true, cond_true, e1, e2, e3]
        rfl
      · dsimp only
        rw [nth_nset]
        split
        · rename_i hc; obtain ⟨rfl, _⟩ := hc; rw [hs1]
        · rename_i hc; exact hs3 j (by have : j ≠ i := fun e => hc ⟨e, by omega⟩; omega))
    (fun f s0 hs => by
      obtain ⟨s, ys⟩ := s0
      obtain ⟨hs1, hs2, hs3⟩ := hs
      dsimp only at hs2
      simp only [l_laws_markDeviceS_w_0, s_laws_markDeviceS_w_0, hs2, dec_nlt, cond_false]) (s := (k, l)) ⟨by simp, rfl, fun j hj => by omega⟩ (f := N) (by omega)
  refine h1.trans ?_
  rw [h2]
  congr 1
  refine ext_nth fun j => ?_
  rcases Nat.lt_or_ge j l.length with hj | hj
  · rw [h4 j hj, nth_rowsDevice k hj]
  · rw [nth_none (by rw [h3]; exact hj), nth_none (by rw [rowsDevice_length]; exact hj)]

theorem laws_heldDeviceS_w_eq {n : Nat} {b : Bool} {k : Int} (hl : n ≤ 2 ^ 40) (hk : 1 ≤ k) (hk2 : k ≤ 2 ^ 50) (hN : 2 ^ 40 < N) (K : Int → Option R) : g_laws_heldDeviceS_w N b k (rowsDevice k n) K = K (k + 3 * (n : Int)) := by
  unfold g_laws_heldDeviceS_w c_laws_heldDeviceS_w_0
  obtain ⟨h1, h2⟩ := fold (fun f i (s : Int) => l_laws_heldDeviceS_w_0 N b (rowsDevice k n) (fun _ => K (-1)) (fun n => K n) f s i) n (fun _ s => s + 3) (fun i s => s = k + 3 * (i : Int)) (fun s => K s)
    (fun f i s hi hs => by
      have hr : rowDevice (k + 3 * (i : Int)) = rowDevice s := by rw [hs]
      have hx : nth (rowsDevice k n) i = some (rowDevice s) := by rw [nth_rowsDevice k hi, hr]
      have e1 : IntKind.wrap .i64 (s + 1) = s + 1 := by rw [w64 (by omega) (by omega)]
      have e2 : IntKind.wrap .i64 (s + 1 + 1) = s + 2 := by rw [w64 (by omega) (by omega)]; omega
      have e3 : IntKind.wrap .i64 (s + 2 + 1) = s + 3 := by rw [w64 (by omega) (by omega)]; omega
      refine ⟨?_, by omega⟩
      simp only [l_laws_heldDeviceS_w_0, s_laws_heldDeviceS_w_0, rowsDevice_length, dec_lt hi, dec_nn, Int.toNat_natCast, elemK_some hx, rowDevice, bne_self_eq_false, beq_self_eq_true, decide_true, Bool.not_true, cond_false, wrap_next hi (by omega), Bool.and_true, cond_true, e1, e2, e3])
    (fun f s hs => by
      simp only [l_laws_heldDeviceS_w_0, s_laws_heldDeviceS_w_0, rowsDevice_length, dec_nlt, cond_false]) (s := k) (by simp) (f := N) (by omega)
  refine h1.trans ?_
  rw [h2]

def rowFirmTable (k : Int) : FirmTable := ⟨mt (k), k + 1, mt (k + 2)⟩

def rowsFirmTable (k : Int) (n : Nat) : List FirmTable := (List.range n).map fun (i : Nat) => rowFirmTable (k + 3 * (i : Int))

theorem nth_rowsFirmTable (k : Int) {n i : Nat} (h : i < n) : nth (rowsFirmTable k n) i = some (rowFirmTable (k + 3 * (i : Int))) := by
  unfold rowsFirmTable
  rw [nth_map, nth_eq, List.getElem?_range h]
  rfl

theorem rowsFirmTable_length (k : Int) (n : Nat) : (rowsFirmTable k n).length = n := by simp [rowsFirmTable]

theorem laws_markFirmTableS_w_eq {l : List FirmTable} {b : Bool} {k : Int} (hl : l.length ≤ 2 ^ 40) (hk : 1 ≤ k) (hk2 : k ≤ 2 ^ 50) (hN : 2 ^ 40 < N) (K : Int → List FirmTable → Option R) : g_laws_markFirmTableS_w N b k l K = K (k + 3 * (l.length : Int)) (rowsFirmTable k l.length) := by
  unfold g_laws_markFirmTableS_w c_laws_markFirmTableS_w_0
  obtain ⟨h1, h2, h3, h4⟩ := fold (fun f i (s : Int × List FirmTable) => l_laws_markFirmTableS_w_0 N b (fun n l => K n l) f s.1 i s.2) l.length (fun i s => (s.1 + 3, nset s.2 i (rowFirmTable s.1))) (fun i s => s.1 = k + 3 * (i : Int) ∧ s.2.length = l.length ∧ ∀ j : Nat, j < i → nth s.2 j = some (rowFirmTable (k + 3 * (j : Int)))) (fun s => K s.1 s.2)
    (fun f i s0 hi hs => by
      obtain ⟨s, ys⟩ := s0
      obtain ⟨hs1, hs2, hs3⟩ := hs
      dsimp only at hs1 hs2 hs3
      obtain ⟨x, hx⟩ := nth_some (l := ys) (n := i) (by omega)
      have e1 : IntKind.wrap .i64 (s + 1) = s + 1 := by rw [w64 (by omega) (by omega)]
      have e2 : IntKind.wrap .i64 (s + 1 + 1) = s + 2 := by rw [w64 (by omega) (by omega)]; omega
      have e3 : IntKind.wrap .i64 (s + 2 + 1) = s + 3 := by rw [w64 (by omega) (by omega)]; omega
      have m0 : ∀ K : ByteArray → Option R, g_laws_markText N (s) K = K (mt (s)) := fun K => markText_eq N (by omega) (by omega) hN K
      have m2 : ∀ K : ByteArray → Option R, g_laws_markText N (s + 2) K = K (mt (s + 2)) := fun K => markText_eq N (by omega) (by omega) hN K
      refine ⟨?_, by dsimp only; omega, by simpa using hs2, fun j hj => ?_⟩
      · simp only [l_laws_markFirmTableS_w_0, s_laws_markFirmTableS_w_0, dec_lt hi, dec_lt (show i < ys.length by omega), dec_nn, Int.toNat_natCast, hs2, nset_length, elemK_some hx, elemK_nset (show i < ys.length by omega), nset_nset, blt_t hi, blt_t (show i < ys.length by omega), wrap_next hi (by omega), Bool.and_true, cond_true, e1, e2, e3, m0, m2]
        rfl
      · dsimp only
        rw [nth_nset]
        split
        · rename_i hc; obtain ⟨rfl, _⟩ := hc; rw [hs1]
        · rename_i hc; exact hs3 j (by have : j ≠ i := fun e => hc ⟨e, by omega⟩; omega))
    (fun f s0 hs => by
      obtain ⟨s, ys⟩ := s0
      obtain ⟨hs1, hs2, hs3⟩ := hs
      dsimp only at hs2
      simp only [l_laws_markFirmTableS_w_0, s_laws_markFirmTableS_w_0, hs2, dec_nlt, cond_false]) (s := (k, l)) ⟨by simp, rfl, fun j hj => by omega⟩ (f := N) (by omega)
  refine h1.trans ?_
  rw [h2]
  congr 1
  refine ext_nth fun j => ?_
  rcases Nat.lt_or_ge j l.length with hj | hj
  · rw [h4 j hj, nth_rowsFirmTable k hj]
  · rw [nth_none (by rw [h3]; exact hj), nth_none (by rw [rowsFirmTable_length]; exact hj)]

def devWord (x : Device) : Int := IntKind.wrap .i64 (IntKind.wrap .i64 (IntKind.wrap .i64 (x.fKind * 16777216) + IntKind.wrap .i64 (x.fLine * 65536)) + x.fPort)

def devWords (l : List Device) : ByteArray := l.foldl (fun s x => s ++ putWord (devWord x)) ⟨[].toArray⟩

def tables (fr cp : Int) (l : List Device) : List FirmTable := cond (boardFault fr cp l != 0) []
  [⟨⟨[(77 : UInt8), (69 : UInt8), (77 : UInt8), (79 : UInt8)].toArray⟩, 1, putWord fr⟩, ⟨⟨[(67 : UInt8), (80 : UInt8), (85 : UInt8), (83 : UInt8)].toArray⟩, 1, putWord cp⟩, ⟨⟨[(68 : UInt8), (69 : UInt8), (86 : UInt8), (83 : UInt8)].toArray⟩, 1, devWords l⟩]

theorem boardFault_len {fr cp : Int} {l : List Device} (h : (boardFault fr cp l != 0) = false) : l.length ≤ 16 := by
  unfold boardFault at h
  rcases Nat.lt_or_ge 16 l.length with hl | hl
  · rw [decide_eq_true (show l.length > 16 from hl)] at h
    simp at h
  · exact hl

theorem impl_TablesOf_eq {fr cp : Int} {l : List Device} {b : Bool} (hN : 2 ^ 40 < N) (k : Bool → List FirmTable → Option R) : g_impl_TablesOf_w N fr cp b l k = k (boardFault fr cp l != 0) (tables fr cp l) := by
  unfold g_impl_TablesOf_w tables
  rw [impl_BoardFault_eq N hN]
  by_cases h : (boardFault fr cp l != 0) = true
  · rw [h]; rfl
  · rw [Bool.not_eq_true] at h
    have hl := boardFault_len h
    rw [h]
    simp only [cond_false]
    unfold c_impl_TablesOf_w_0
    have h1 := fold (fun f i s => l_impl_TablesOf_w_0 N b l.length l fr cp b (fun s2 => g_impl_PutWord N fr fun s3 => g_impl_PutWord N cp fun s4 => k false [⟨⟨[(77 : UInt8), (69 : UInt8), (77 : UInt8), (79 : UInt8)].toArray⟩, 1, s3⟩, ⟨⟨[(67 : UInt8), (80 : UInt8), (85 : UInt8), (83 : UInt8)].toArray⟩, 1, s4⟩, ⟨⟨[(68 : UInt8), (69 : UInt8), (86 : UInt8), (83 : UInt8)].toArray⟩, 1, s2⟩]) f s i) l.length (fun i s => atD l i (fun x => s ++ putWord (devWord x)) s) (fun i s => s.size = 4 * i) _ (fun f i s hi hs => by
      obtain ⟨x, hx⟩ := nth_some hi
      simp only [l_impl_TablesOf_w_0, s_impl_TablesOf_w_0, dec_lt hi, dec_nn, Int.toNat_natCast, elemK_some hx, wrap_next hi (by omega), Bool.and_true, cond_true, impl_PutWord_eq, atD_some hx, ble_t (show s.size + (putWord (IntKind.wrap .i64 (IntKind.wrap .i64 (IntKind.wrap .i64 (x.fKind * 16777216) + IntKind.wrap .i64 (x.fLine * 65536)) + x.fPort))).size ≤ 9223372036854775807 by rw [putWord_size]; omega)]
      refine ⟨rfl, ?_⟩
      rw [ByteArray.size_append, putWord_size]; omega) (fun f s hs => by
      simp only [l_impl_TablesOf_w_0, s_impl_TablesOf_w_0, dec_nlt, cond_false]
      rfl) (s := ⟨[].toArray⟩) rfl (f := N) (by omega)
    rw [foldl_atD l (fun s x => s ++ putWord (devWord x))] at h1
    refine h1.1.trans ?_
    simp only [impl_PutWord_eq]
    rfl

theorem spec_TablesOf_eq {fr cp : Int} {l : List Device} {b : Bool} (hN : 2 ^ 40 < N) (k : List FirmTable → Option R) : g_spec_TablesOf_w N fr cp b l k = k (tables fr cp l) := by
  unfold g_spec_TablesOf_w tables
  rw [spec_BoardFault_eq N hN]
  by_cases h : (boardFault fr cp l != 0) = true
  · rw [h]; rfl
  · rw [Bool.not_eq_true] at h
    have hl := boardFault_len h
    rw [h]
    simp only [cond_false]
    unfold c_spec_TablesOf_w_0
    have h1 := fold (fun f i s => l_spec_TablesOf_w_0 N l fr cp b (fun s2 => g_spec_PutWord N fr fun s3 => g_spec_PutWord N cp fun s4 => k [⟨⟨[(77 : UInt8), (69 : UInt8), (77 : UInt8), (79 : UInt8)].toArray⟩, 1, s3⟩, ⟨⟨[(67 : UInt8), (80 : UInt8), (85 : UInt8), (83 : UInt8)].toArray⟩, 1, s4⟩, ⟨⟨[(68 : UInt8), (69 : UInt8), (86 : UInt8), (83 : UInt8)].toArray⟩, 1, s2⟩]) f s i) l.length (fun i s => atD l i (fun x => s ++ putWord (devWord x)) s) (fun i s => s.size = 4 * i) _ (fun f i s hi hs => by
      obtain ⟨x, hx⟩ := nth_some hi
      simp only [l_spec_TablesOf_w_0, s_spec_TablesOf_w_0, dec_lt hi, dec_nn, Int.toNat_natCast, elemK_some hx, wrap_next hi (by omega), Bool.and_true, cond_true, spec_PutWord_eq, atD_some hx, ble_t (show s.size + (putWord (IntKind.wrap .i64 (IntKind.wrap .i64 (IntKind.wrap .i64 (x.fKind * 16777216) + IntKind.wrap .i64 (x.fLine * 65536)) + x.fPort))).size ≤ 9223372036854775807 by rw [putWord_size]; omega)]
      refine ⟨rfl, ?_⟩
      rw [ByteArray.size_append, putWord_size]; omega) (fun f s hs => by
      simp only [l_spec_TablesOf_w_0, s_spec_TablesOf_w_0, dec_nlt, cond_false]
      rfl) (s := ⟨[].toArray⟩) rfl (f := N) (by omega)
    rw [foldl_atD l (fun s x => s ++ putWord (devWord x))] at h1
    refine h1.1.trans ?_
    simp only [spec_PutWord_eq]
    rfl

theorem tables_length (fr cp : Int) (l : List Device) : (tables fr cp l).length ≤ 3 := by
  unfold tables
  cases (boardFault fr cp l != 0) <;> simp

def wordAt (s : ByteArray) (i : Nat) : Int := bt s i + bt s (i + 1) * 256 + bt s (i + 2) * 65536 + bt s (i + 3) * 16777216

theorem wordAt_bound (s : ByteArray) (i : Nat) : 0 ≤ wordAt s i ∧ wordAt s i < 4294967296 := by
  have h0 := bt_bound s i
  have h1 := bt_bound s (i + 1)
  have h2 := bt_bound s (i + 2)
  have h3 := bt_bound s (i + 3)
  unfold wordAt
  omega

theorem spec_l01Word_eq {s : ByteArray} {i : Nat} (h : i + 4 ≤ s.size) (hs : s.size ≤ 2 ^ 60) (k : Int → Option R) : g_spec_l01Word N s (i : Int) k = k (wordAt s i) := by
  have h0 := bt_bound s i
  have h1 := bt_bound s (i + 1)
  have h2 := bt_bound s (i + 2)
  have h3 := bt_bound s (i + 3)
  have e1 : IntKind.wrap .i64 ((i : Int) + 1) = ((i + 1 : Nat) : Int) := by rw [w64 (by omega) (by omega)]; omega
  have e2 : IntKind.wrap .i64 ((i : Int) + 2) = ((i + 2 : Nat) : Int) := by rw [w64 (by omega) (by omega)]; omega
  have e3 : IntKind.wrap .i64 ((i : Int) + 3) = ((i + 3 : Nat) : Int) := by rw [w64 (by omega) (by omega)]; omega
  simp only [g_spec_l01Word, e1, e2, e3, dec_nn, dec_lt (show i < s.size by omega), dec_lt (show i + 1 < s.size by omega), dec_lt (show i + 2 < s.size by omega), dec_lt (show i + 3 < s.size by omega), Bool.and_true, cond_true, Int.toNat_natCast]
  rw [w64 (n := bt s i) (by omega) (by omega), w64 (n := bt s (i + 1)) (by omega) (by omega), w64 (n := bt s (i + 2)) (by omega) (by omega), w64 (n := bt s (i + 3)) (by omega) (by omega), w64 (n := bt s (i + 1) * 256) (by omega) (by omega), w64 (n := bt s (i + 2) * 65536) (by omega) (by omega), w64 (n := bt s (i + 3) * 16777216) (by omega) (by omega), w64 (n := bt s i + bt s (i + 1) * 256) (by omega) (by omega), w64 (n := bt s i + bt s (i + 1) * 256 + bt s (i + 2) * 65536) (by omega) (by omega), w64 (n := bt s i + bt s (i + 1) * 256 + bt s (i + 2) * 65536 + bt s (i + 3) * 16777216) (by omega) (by omega)]
  rfl

theorem or_word (a b c d : Int) (ha : 0 ≤ a ∧ a ≤ 255) (hb : 0 ≤ b ∧ b ≤ 255) (hc : 0 ≤ c ∧ c ≤ 255) (hd : 0 ≤ d ∧ d ≤ 255) :
    IntKind.wrap .i64 (((BitVec.ofInt 64 (IntKind.wrap .i64 (((BitVec.ofInt 64 (IntKind.wrap .i64 (((BitVec.ofInt 64 a ||| BitVec.ofInt 64 (b * 256)).toNat : Nat) : Int)) ||| BitVec.ofInt 64 (c * 65536)).toNat : Nat) : Int)) ||| BitVec.ofInt 64 (d * 16777216)).toNat : Nat) : Int) = a + b * 256 + c * 65536 + d * 16777216 := by
  have com : ∀ x y : Int, (BitVec.ofInt 64 x ||| BitVec.ofInt 64 y) = (BitVec.ofInt 64 y ||| BitVec.ofInt 64 x) := fun x y => BitVec.or_comm _ _
  have h1 := or_add (a := b * 256) (b := a) 8 (by omega) (by omega) (by omega) (by omega) (by omega)
  have h2 := or_add (a := c * 65536) (b := b * 256 + a) 16 (by omega) (by omega) (by omega) (by omega) (by omega)
  have h3 := or_add (a := d * 16777216) (b := c * 65536 + (b * 256 + a)) 24 (by omega) (by omega) (by omega) (by omega) (by omega)
  rw [com a, h1, com (b * 256 + a), h2, com (c * 65536 + (b * 256 + a)), h3]
  omega

theorem impl_ywordAt_eq {s : ByteArray} {i : Nat} (h : i + 4 ≤ s.size) (hs : s.size ≤ 2 ^ 60) (k : Int → Option R) : g_impl_ywordAt N s (i : Int) k = k (wordAt s i) := by
  have h0 := bt_bound s i
  have h1 := bt_bound s (i + 1)
  have h2 := bt_bound s (i + 2)
  have h3 := bt_bound s (i + 3)
  have e1 : IntKind.wrap .i64 ((i : Int) + 1) = ((i + 1 : Nat) : Int) := by rw [w64 (by omega) (by omega)]; omega
  have e2 : IntKind.wrap .i64 ((i : Int) + 2) = ((i + 2 : Nat) : Int) := by rw [w64 (by omega) (by omega)]; omega
  have e3 : IntKind.wrap .i64 ((i : Int) + 3) = ((i + 3 : Nat) : Int) := by rw [w64 (by omega) (by omega)]; omega
  simp only [g_impl_ywordAt, e1, e2, e3, dec_nn, dec_lt (show i < s.size by omega), dec_lt (show i + 1 < s.size by omega), dec_lt (show i + 2 < s.size by omega), dec_lt (show i + 3 < s.size by omega), Bool.and_true, cond_true, Int.toNat_natCast]
  rw [w64 (n := bt s i) (by omega) (by omega), w64 (n := bt s (i + 1)) (by omega) (by omega), w64 (n := bt s (i + 2)) (by omega) (by omega), w64 (n := bt s (i + 3)) (by omega) (by omega), w64 (n := bt s (i + 1) * 256) (by omega) (by omega), w64 (n := bt s (i + 2) * 65536) (by omega) (by omega), w64 (n := bt s (i + 3) * 16777216) (by omega) (by omega), or_word _ _ _ _ h0 h1 h2 h3]
  rfl

def nameOk (s : ByteArray) : Bool := (s.size == 4) && !((List.range s.size).any fun i => decide (bt s i < 65) || decide (bt s i > 90))

theorem impl_ytableName_eq {s : ByteArray} (hs : s.size ≤ 2 ^ 40) (hN : 2 ^ 40 < N) (k : Bool → Option R) : g_impl_ytableName N s k = k (nameOk s) := by
  unfold g_impl_ytableName c_impl_ytableName_0 nameOk
  have hg : ((s.size : Int) == 4) = (s.size == 4) := by rw [Bool.eq_iff_iff]; simp; omega
  rw [hg, srch (l_impl_ytableName_0 N s s.size (k false) (k (s.size == 4))) s.size (fun i => decide (bt s i < 65) || decide (bt s i > 90)) (k false) (k (s.size == 4)) (fun f i hi => by
      simp only [l_impl_ytableName_0, s_impl_ytableName_0, dec_lt hi, dec_nn, Int.toNat_natCast, wrap_next hi (by omega), Bool.and_true, cond_true, cond_somes, oK_some_eq, Bool.cond_true_left]) (fun f => by
      simp only [l_impl_ytableName_0, s_impl_ytableName_0, dec_nlt, cond_false]) (by omega)]
  cases (List.range s.size).any fun i => decide (bt s i < 65) || decide (bt s i > 90)
  · simp
  · simp

def tblOk (x : FirmTable) : Bool := nameOk x.fName && (decide (x.fRev ≥ 0) && decide (x.fRev ≤ 255) && (decide (x.fBody.size ≤ 200) && x.fBody.size % 4 == 0))

theorem tmod4 (n : Nat) : (Int.tmod (n : Int) 4 == 0) = (n % 4 == 0) := by
  rw [Int.tmod_eq_emod_of_nonneg (by omega)]
  rw [Bool.eq_iff_iff]; simp; omega

def runE {S : Type} (bad : Nat → S → Bool) (g : Nat → S → S) : Nat → Nat → S → Option S
  | 0, _, s => some s
  | d + 1, i, s => cond (bad i s) none (runE bad g d (i + 1) (g i s))

/-- A fold that may be left, by a test on its state. -/
theorem foldS {S : Type} (l : Nat → Int → S → Option R) (n : Nat) (bad : Nat → S → Bool) (g : Nat → S → S) (I : Nat → S → Prop) (k : S → Option R) (k0 : Option R)
    (h : ∀ f i s, i < n → I i s → l (f + 1) (i : Int) s = cond (bad i s) k0 (l f ((i + 1 : Nat) : Int) (g i s)) ∧ (bad i s = false → I (i + 1) (g i s)))
    (he : ∀ f s, I n s → l (f + 1) (n : Int) s = k s) {s : S} (hs : I 0 s) {f : Nat} (hf : n < f) :
    (l f 0 s = match runE bad g n 0 s with | some s' => k s' | none => k0) ∧ ∀ s', runE bad g n 0 s = some s' → I n s' := by
  have key : ∀ d i f s, i + d = n → d < f → I i s → (l f (i : Int) s = match runE bad g d i s with | some s' => k s' | none => k0) ∧ ∀ s', runE bad g d i s = some s' → I n s' := by
    intro d
    induction d with
    | zero =>
      intro i f s hi hf hs
      obtain ⟨f, rfl⟩ : ∃ j, f = j + 1 := ⟨f - 1, by omega⟩
      have : i = n := by omega
      subst this
      refine ⟨he f s hs, fun s' e => ?_⟩
      simp only [runE, Option.some.injEq] at e
      subst e
      exact hs
    | succ d ih =>
      intro i f s hi hf hs
      obtain ⟨f, rfl⟩ : ∃ j, f = j + 1 := ⟨f - 1, by omega⟩
      obtain ⟨h1, h2⟩ := h f i s (by omega) hs
      rw [h1]
      simp only [runE]
      cases hb : bad i s with
      | true => exact ⟨rfl, fun s' e => by cases e⟩
      | false => exact ih (i + 1) f _ (by omega) (by omega) (h2 hb)
  exact key n 0 f s (by omega) hf hs

def szFT (x : FirmTable) (n : Int) : Int := cond (decide (n - (x.fName.size : Int) < 0)) (-1) (cond (decide (n - (x.fName.size : Int) - (x.fBody.size : Int) < 0)) (-1) (n - (x.fName.size : Int) - (x.fBody.size : Int)))

theorem laws_szFirmTable_eq (x : FirmTable) {n : Int} (h0 : 0 ≤ n) (h1 : n ≤ 2 ^ 40) (h2 : x.fName.size ≤ 9223372036854775807) (h3 : x.fBody.size ≤ 9223372036854775807) (k : Int → Option R) : g_laws_szFirmTable N x.fName x.fRev x.fBody n k = k (szFT x n) := by
  unfold g_laws_szFirmTable szFT
  rw [w64 (n := n - (x.fName.size : Int)) (by omega) (by omega)]
  by_cases h : n - (x.fName.size : Int) < 0
  · rw [decide_eq_true h]; rfl
  · rw [decide_eq_false h, w64 (n := n - (x.fName.size : Int) - (x.fBody.size : Int)) (by omega) (by omega)]
    cases decide (n - (x.fName.size : Int) - (x.fBody.size : Int) < 0) <;> rfl

theorem szFT_le {x : FirmTable} {n : Int} (h : 0 ≤ szFT x n) : szFT x n ≤ n ∧ (x.fName.size : Int) ≤ n ∧ (x.fBody.size : Int) ≤ n := by
  unfold szFT at h ⊢
  by_cases h1 : n - (x.fName.size : Int) < 0
  · rw [decide_eq_true h1] at h; simp at h
  · rw [decide_eq_false h1] at h ⊢
    by_cases h2 : n - (x.fName.size : Int) - (x.fBody.size : Int) < 0
    · rw [decide_eq_true h2] at h; simp at h
    · rw [decide_eq_false h2]
      simp only [cond_false]
      omega

theorem laws_szFirmTableS_eq {l : List FirmTable} {b : Bool} {n : Int} (h0 : 0 ≤ n) (h1 : n ≤ 2 ^ 30) (hl : l.length ≤ maxLen) (hx : ∀ x ∈ l, x.fName.size ≤ 9223372036854775807 ∧ x.fBody.size ≤ 9223372036854775807) (hN : 2 ^ 40 < N) :
    ∃ v, (∀ k : Int → Option R, g_laws_szFirmTableS_r N b n l k = k v) ∧ (v < 0 ∨ (0 ≤ v ∧ (l.length : Int) ≤ n ∧ ∀ x ∈ l, (x.fName.size : Int) ≤ n ∧ (x.fBody.size : Int) ≤ n)) := by
  have hl : l.length ≤ 9223372036854775807 := hl
  by_cases hc : n - (l.length : Int) < 0
  · refine ⟨-1, fun k => ?_, Or.inl (by omega)⟩
    unfold g_laws_szFirmTableS_r
    rw [w64 (by omega) (by omega), decide_eq_true hc]; rfl
  · have key := fun (k : Int → Option R) => foldS (fun f i s => l_laws_szFirmTableS_r_0 N b l (fun n4 => k (-1)) (fun n5 => k n5) f s i) l.length (fun i s => atD l i (fun x => decide (szFT x s < 0)) true) (fun i s => atD l i (fun x => szFT x s) s)
      (fun i s => 0 ≤ s ∧ s ≤ n ∧ ∀ j x, j < i → nth l j = some x → (x.fName.size : Int) ≤ n ∧ (x.fBody.size : Int) ≤ n) k (k (-1)) (fun f i s hi hs => by
        obtain ⟨x, hx1⟩ := nth_some hi
        have hm : x ∈ l := by rw [nth_eq] at hx1; exact List.mem_of_getElem? hx1
        obtain ⟨q1, q2⟩ := hx x hm
        simp only [l_laws_szFirmTableS_r_0, s_laws_szFirmTableS_r_0, dec_lt hi, dec_nn, Int.toNat_natCast, elemK_some hx1, wrap_next hi (by omega), Bool.and_true, cond_true, atD_some hx1, laws_szFirmTable_eq N x hs.1 (by omega) q1 q2]
        refine ⟨trivial, fun hb => ?_⟩
        have hb : 0 ≤ szFT x s := by simpa using hb
        have := szFT_le hb
        refine ⟨hb, by omega, fun j y hj hy => ?_⟩
        by_cases hji : j = i
        · subst hji
          rw [hx1] at hy
          cases hy
          omega
        · exact hs.2.2 j y (by omega) hy) (fun f s hs => by
        simp only [l_laws_szFirmTableS_r_0, s_laws_szFirmTableS_r_0, dec_nlt, cond_false]) (s := n - (l.length : Int)) ⟨by omega, by omega, fun j x hj => absurd hj (by omega)⟩ (f := N) (by omega)
    have hrun : ∀ k : Int → Option R, g_laws_szFirmTableS_r N b n l k = l_laws_szFirmTableS_r_0 N b l (fun n4 => k (-1)) (fun n5 => k n5) N (n - (l.length : Int)) 0 := fun k => by
      unfold g_laws_szFirmTableS_r c_laws_szFirmTableS_r_0
      rw [w64 (by omega) (by omega), decide_eq_false hc]; rfl
    cases hr : runE (fun i s => atD l i (fun x => decide (szFT x s < 0)) true) (fun i s => atD l i (fun x => szFT x s) s) l.length 0 (n - (l.length : Int)) with
    | none =>
      refine ⟨-1, fun k => ?_, Or.inl (by omega)⟩
      rw [hrun k]
      have := (key k).1
      rw [hr] at this
      exact this
    | some v =>
      have h2 := (key (fun _ => none)).2 v hr
      refine ⟨v, fun k => ?_, Or.inr ⟨h2.1, by omega, fun x hm => ?_⟩⟩
      · rw [hrun k]
        have := (key k).1
        rw [hr] at this
        exact this
      · obtain ⟨j, hj⟩ := List.getElem?_of_mem hm
        have hlt : j < l.length := by
          rcases Nat.lt_or_ge j l.length with h | h
          · exact h
          · rw [List.getElem?_eq_none h] at hj; cases hj
        exact h2.2.2 j x hlt (by rw [nth_eq]; exact hj)

theorem tblOk_facts {x : FirmTable} (h : tblOk x = true) : x.fName.size = 4 ∧ 0 ≤ x.fRev ∧ x.fRev ≤ 255 ∧ x.fBody.size ≤ 200 ∧ x.fBody.size % 4 = 0 := by
  unfold tblOk nameOk at h
  simp only [Bool.and_eq_true, decide_eq_true_eq, beq_iff_eq] at h
  omega

def devAt (s : ByteArray) (j : Nat) : Device := ⟨wordAt s (4 * j) / 16777216, wordAt s (4 * j) % 65536, wordAt s (4 * j) / 65536 % 256⟩

def devs (s : ByteArray) : List Device := (List.range (s.size / 4)).map (devAt s)

theorem devs_length (s : ByteArray) : (devs s).length = s.size / 4 := by simp [devs]

theorem and65535 (n : Int) : IntKind.wrap .i64 (((BitVec.ofInt 64 n &&& BitVec.ofInt 64 65535).toNat : Nat) : Int) = n % 65536 := and_mask n 16 (by omega)

theorem impl_BoardOf_1_eq (x : FirmTable) (hx : x.fName.size ≤ 2 ^ 40) (hN : 2 ^ 40 < N) (k : Bool → Option R) : g_impl_BoardOf_1 N x.fName x.fRev x.fBody k = k (!tblOk x) := by
  unfold g_impl_BoardOf_1 g_impl_ytableOk
  have hg : decide ((x.fBody.size : Int) ≤ 200) = decide (x.fBody.size ≤ 200) := decide_eq_decide.2 (by omega)
  simp only [impl_ytableName_eq N hx hN, impl_yin_eq, hg, tmod4, cond_somes, oK_some_eq]
  refine congrArg k ?_
  unfold tblOk
  cases nameOk x.fName <;> cases (decide (x.fRev ≥ 0) && decide (x.fRev ≤ 255)) <;> cases decide (x.fBody.size ≤ 200) <;> rfl

theorem indexFunc_board_eq {l : List FirmTable} {b : Bool} (hl : l.length ≤ 2 ^ 40) (hx : ∀ x ∈ l, x.fName.size ≤ 2 ^ 40) (hN : 2 ^ 40 < N) (k : Int → Option R) : g_slices_IndexFunc_FirmTable_Fimpl_BoardOf_1_r N b l k = k (fstAt l.length (fun i => atD l i (fun x => !tblOk x) true)) := by
  unfold g_slices_IndexFunc_FirmTable_Fimpl_BoardOf_1_r c_slices_IndexFunc_FirmTable_Fimpl_BoardOf_1_r_0
  rw [srchI (l_slices_IndexFunc_FirmTable_Fimpl_BoardOf_1_r_0 N b l.length l (fun n3 => k n3) (k (-1))) l.length (fun i => atD l i (fun x => !tblOk x) true) (fun n3 => k n3) (k (-1)) (fun f i hi => ?_) (fun f => ?_) (by omega)]
  · unfold fstAt
    split <;> rfl
  · obtain ⟨x, hx1⟩ := nth_some hi
    have hm : x ∈ l := by rw [nth_eq] at hx1; exact List.mem_of_getElem? hx1
    simp only [l_slices_IndexFunc_FirmTable_Fimpl_BoardOf_1_r_0, s_slices_IndexFunc_FirmTable_Fimpl_BoardOf_1_r_0, dec_lt hi, dec_nn, Int.toNat_natCast, elemK_some hx1, wrap_next hi (by omega), Bool.and_true, cond_true, atD_some hx1, impl_BoardOf_1_eq N x (hx x hm) hN]
  · simp only [l_slices_IndexFunc_FirmTable_Fimpl_BoardOf_1_r_0, s_slices_IndexFunc_FirmTable_Fimpl_BoardOf_1_r_0, dec_nlt, cond_false]

theorem containsFunc_board_eq {l : List FirmTable} {b : Bool} (hl : l.length ≤ 2 ^ 40) (hx : ∀ x ∈ l, x.fName.size ≤ 2 ^ 40) (hN : 2 ^ 40 < N) (k : Bool → Option R) : g_slices_ContainsFunc_FirmTable_Fimpl_BoardOf_1_r N b l k = k (l.any fun x => !tblOk x) := by
  unfold g_slices_ContainsFunc_FirmTable_Fimpl_BoardOf_1_r
  rw [indexFunc_board_eq N hl hx hN, fstAt_nonneg, any_atD]

theorem ft_beq (x y : FirmTable) : (decide (x.fName = y.fName) && ((x.fRev == y.fRev) && decide (x.fBody = y.fBody))) = decide (x = y) := by
  obtain ⟨a, b, c⟩ := x
  obtain ⟨d, e, f⟩ := y
  rw [Bool.eq_iff_iff]
  simp

theorem slices_Equal_table_eq {l m : List FirmTable} {b b1 : Bool} (hl : l.length ≤ 2 ^ 40) (hN : 2 ^ 40 < N) (k : Bool → Option R) : g_slices_Equal_FirmTable_ww N b b1 l m k = k (decide (l = m)) := by
  unfold g_slices_Equal_FirmTable_ww
  by_cases h : l.length = m.length
  · rw [show ((l.length : Int) != (m.length : Int)) = false by rw [h]; simp, cond_false]
    unfold c_slices_Equal_FirmTable_ww_0
    refine (eql (l_slices_Equal_FirmTable_ww_0 N b b1 l.length l m (k false) (k true)) l m h (k false) (k true) (fun f i x y hi hx hy => ?_) (fun f => ?_) (by omega)).trans ?_
    · simp only [l_slices_Equal_FirmTable_ww_0, s_slices_Equal_FirmTable_ww_0, dec_lt hi, dec_nn, Int.toNat_natCast, elemK_some hx, elemK_some hy, dec_lt (show i < m.length by omega), ft_beq, wrap_next hi (by omega), Bool.and_true, cond_true]
    · simp only [l_slices_Equal_FirmTable_ww_0, s_slices_Equal_FirmTable_ww_0, dec_nlt, cond_false]
    · cases decide (l = m) <;> rfl
  · rw [show ((l.length : Int) != (m.length : Int)) = true by simp; omega, cond_true, decide_eq_false (fun e => h (by rw [e]))]

theorem impl_BoardOf_loop {s : ByteArray} {l : List FirmTable} {n5 n6 : Int} {b : Bool} (hs : s.size ≤ 2 ^ 30) (h4 : s.size % 4 = 0) (hN : 2 ^ 40 < N) (k : Bool → List Device → Option R) :
    c_impl_BoardOf_w_0 N b s l false 0 0 true [] n5 n6 0 true [] k = k (decide (s.size / 4 = 0)) (devs s) := by
  unfold c_impl_BoardOf_w_0
  obtain ⟨h1, h2, h3⟩ := fold (fun f i (st : Bool × List Device) => l_impl_BoardOf_w_0 N b s l false 0 0 true [] n5 n6 k f (4 * i) st.1 st.2) (s.size / 4) (fun i st => (false, st.2 ++ [devAt s i])) (fun i st => st.1 = decide (i = 0) ∧ st.2 = (List.range i).map (devAt s)) (fun st => k st.1 st.2) (fun f i st hi hs2 => by
      obtain ⟨c, ds⟩ := st
      obtain ⟨q1, q2⟩ := hs2
      dsimp only at q1 q2
      subst q1 q2
      obtain ⟨b1, b2⟩ := wordAt_bound s (4 * i)
      have e4 : (4 * (i : Int)) = ((4 * i : Nat) : Int) := by omega
      have e5 : IntKind.wrap .i64 (((4 * i : Nat) : Int) + 4) = 4 * ((i + 1 : Nat) : Int) := by rw [w64 (by omega) (by omega)]; omega
      simp only [e4, l_impl_BoardOf_w_0, s_impl_BoardOf_w_0, e5, dec_lt (show 4 * i < s.size by omega), impl_ywordAt_eq N (show 4 * i + 4 ≤ s.size by omega) (by omega), cond_true, fdiv_lit _ (show (0 : Int) ≤ 16777216 by omega), fdiv_lit _ (show (0 : Int) ≤ 65536 by omega), and65535, and255, List.length_map, List.length_range, List.length_singleton]
      rw [room (by omega) (by omega), cond_true]
      refine ⟨rfl, (decide_eq_false (by omega)).symm, ?_⟩
      rw [List.range_succ, List.map_append]; rfl) (fun f st hs2 => by
      have e4 : (4 * ((s.size / 4 : Nat) : Int)) = (s.size : Int) := by omega
      simp only [e4, l_impl_BoardOf_w_0, s_impl_BoardOf_w_0, dec_nlt, cond_false]) (s := (true, [])) ⟨rfl, rfl⟩ (f := N) (by omega)
  refine h1.trans ?_
  rw [h2, h3]
  rfl

theorem spec_BoardOf_loop {x y z : FirmTable} {n5 n6 : Int} {b : Bool} (hs : z.fBody.size ≤ 2 ^ 30) (hN : 2 ^ 40 < N) (k : Bool → List Device → Option R) :
    c_spec_BoardOf_w_0 N b [x, y, z] false 0 0 true [] n5 n6 0 true [] k = k (decide (z.fBody.size / 4 = 0)) (devs z.fBody) := by
  unfold c_spec_BoardOf_w_0
  have hl : decide ((2 : Int) < (([x, y, z].length : Nat) : Int)) = true := rfl
  have he : ∀ f : FirmTable → Option R, elemK [x, y, z] 2 f = f z := fun f => rfl
  generalize hL : [x, y, z] = L at hl he ⊢
  generalize hS : z.fBody = s at hs ⊢
  obtain ⟨h1, h2, h3⟩ := fold (fun f i (st : Bool × List Device) => l_spec_BoardOf_w_0 N b L false 0 0 true [] n5 n6 k f (4 * i) st.1 st.2) (s.size / 4) (fun i st => (false, st.2 ++ [devAt s i])) (fun i st => st.1 = decide (i = 0) ∧ st.2 = (List.range i).map (devAt s)) (fun st => k st.1 st.2) (fun f i st hi hs2 => by
      obtain ⟨c, ds⟩ := st
      obtain ⟨q1, q2⟩ := hs2
      dsimp only at q1 q2
      subst q1 q2
      obtain ⟨b1, b2⟩ := wordAt_bound s (4 * i)
      have e4 : (4 * (i : Int)) = ((4 * i : Nat) : Int) := by omega
      have e5 : IntKind.wrap .i64 (((4 * i : Nat) : Int) + 4) = 4 * ((i + 1 : Nat) : Int) := by rw [w64 (by omega) (by omega)]; omega
      simp only [e4, l_spec_BoardOf_w_0, s_spec_BoardOf_w_0, hl, he, hS, e5, decide_eq_true (show 4 * ((i + 1 : Nat) : Int) ≤ (s.size : Int) by omega), spec_l01Word_eq N (show 4 * i + 4 ≤ s.size by omega) (by omega), cond_true, fdiv_lit _ (show (0 : Int) ≤ 16777216 by omega), fdiv_lit _ (show (0 : Int) ≤ 65536 by omega), List.length_map, List.length_range, List.length_singleton]
      rw [room (by omega) (by omega), cond_true, Int.tmod_eq_emod_of_nonneg b1, Int.tmod_eq_emod_of_nonneg (show 0 ≤ wordAt s (4 * i) / 65536 by omega)]
      refine ⟨rfl, (decide_eq_false (by omega)).symm, ?_⟩
      rw [List.range_succ, List.map_append]; rfl) (fun f st hs2 => by
      have e4 : (4 * ((s.size / 4 : Nat) : Int)) = ((4 * (s.size / 4) : Nat) : Int) := by omega
      simp only [e4, l_spec_BoardOf_w_0, s_spec_BoardOf_w_0, hl, he, hS, cond_true, w64 (show -9223372036854775808 ≤ ((4 * (s.size / 4) : Nat) : Int) + 4 by omega) (show ((4 * (s.size / 4) : Nat) : Int) + 4 < 9223372036854775808 by omega), decide_eq_false (show ¬ ((4 * (s.size / 4) : Nat) : Int) + 4 ≤ (s.size : Int) by omega), cond_false]) (s := (true, [])) ⟨rfl, rfl⟩ (f := N) (by omega)
  refine h1.trans ?_
  rw [h2, h3]
  rfl

def boardOf (l : List FirmTable) : Bool × Int × Int × Bool × List Device :=
  match l with
  | [x, y, z] => cond ((x.fBody.size == 4) && ((y.fBody.size == 4) && (decide (z.fBody.size ≤ 64) && decide (tables (wordAt x.fBody 0) (wordAt y.fBody 0) (devs z.fBody) = l))))
      (true, wordAt x.fBody 0, wordAt y.fBody 0, decide (z.fBody.size / 4 = 0), devs z.fBody) (false, 0, 0, true, [])
  | _ => (false, 0, 0, true, [])

theorem devWords_size (l : List Device) : (devWords l).size = 4 * l.length := by
  have key : ∀ (l : List Device) (s : ByteArray), (l.foldl (fun s x => s ++ putWord (devWord x)) s).size = s.size + 4 * l.length := by
    intro l
    induction l with
    | nil => intro s; rfl
    | cons x l ih =>
      intro s
      rw [List.foldl_cons, ih, ByteArray.size_append, putWord_size, List.length_cons]
      omega
  have := key l ⟨[].toArray⟩
  rw [show (⟨[].toArray⟩ : ByteArray).size = 0 from rfl, Nat.zero_add] at this
  exact this

theorem tables_ok {fr cp : Int} {l : List Device} : ∀ x ∈ tables fr cp l, tblOk x = true := by
  intro x hx
  unfold tables at hx
  cases h : boardFault fr cp l != 0 with
  | true => rw [h] at hx; cases hx
  | false =>
    have hd := boardFault_len h
    have hz : (devWords l).size = 4 * l.length := devWords_size l
    rw [h] at hx
    simp only [cond_false, List.mem_cons, List.not_mem_nil, or_false] at hx
    have n1 : nameOk ⟨[(77 : UInt8), (69 : UInt8), (77 : UInt8), (79 : UInt8)].toArray⟩ = true := by decide
    have n2 : nameOk ⟨[(67 : UInt8), (80 : UInt8), (85 : UInt8), (83 : UInt8)].toArray⟩ = true := by decide
    have n3 : nameOk ⟨[(68 : UInt8), (69 : UInt8), (86 : UInt8), (83 : UInt8)].toArray⟩ = true := by decide
    unfold tblOk
    rcases hx with rfl | rfl | rfl
    · rw [n1, putWord_size]; rfl
    · rw [n2, putWord_size]; rfl
    · rw [n3, hz]
      simp
      omega

theorem slice3 {l : List FirmTable} (h : l.length = 3) : ∃ x y z, l = [x, y, z] := by
  match l, h with
  | [x, y, z], _ => exact ⟨x, y, z, rfl⟩

theorem word4 {s : ByteArray} (h : s.size = 4) : g_impl_ywordAt N s 0 = fun k : Int → Option R => k (wordAt s 0) := by
  funext k
  exact impl_ywordAt_eq N (i := 0) (by omega) (by omega) k

theorem word4s {s : ByteArray} (h : s.size = 4) : g_spec_l01Word N s 0 = fun k : Int → Option R => k (wordAt s 0) := by
  funext k
  exact spec_l01Word_eq N (i := 0) (by omega) (by omega) k

theorem impl_BoardOf_eq {l : List FirmTable} {b : Bool} (hl : l.length ≤ 2 ^ 40) (hx : ∀ x ∈ l, x.fName.size ≤ 2 ^ 30 ∧ x.fBody.size ≤ 2 ^ 30) (hN : 2 ^ 40 < N) (k : Bool → Int → Int → Bool → List Device → Option R) :
    g_impl_BoardOf_w N b l k = k (boardOf l).1 (boardOf l).2.1 (boardOf l).2.2.1 (boardOf l).2.2.2.1 (boardOf l).2.2.2.2 := by
  unfold g_impl_BoardOf_w
  rw [containsFunc_board_eq N hl (fun x hm => by have := hx x hm; omega) hN]
  by_cases h3 : l.length = 3
  · obtain ⟨x, y, z, rfl⟩ := slice3 h3
    have hany : (([x, y, z] : List FirmTable).any fun x => !tblOk x) = !(tblOk x && (tblOk y && tblOk z)) := by
      simp only [List.any_cons, List.any_nil, Bool.or_false, Bool.not_and]
    have e0 : ∀ f : FirmTable → Option R, elemK [x, y, z] 0 f = f x := fun f => rfl
    have e0b : ∀ f : FirmTable → Option Bool, elemK [x, y, z] 0 f = f x := fun f => rfl
    have e1 : ∀ f : FirmTable → Option R, elemK [x, y, z] 1 f = f y := fun f => rfl
    have e1b : ∀ f : FirmTable → Option Bool, elemK [x, y, z] 1 f = f y := fun f => rfl
    have e2 : ∀ f : FirmTable → Option R, elemK [x, y, z] 2 f = f z := fun f => rfl
    have g0 : decide ((0 : Int) < (([x, y, z].length : Nat) : Int)) = true := rfl
    have g1 : decide ((1 : Int) < (([x, y, z].length : Nat) : Int)) = true := rfl
    have g2 : decide ((2 : Int) < (([x, y, z].length : Nat) : Int)) = true := rfl
    have g3 : ((([x, y, z].length : Nat) : Int) != 3) = false := rfl
    simp only [hany, e0, e0b, e1, e1b, e2, g0, g1, g2, g3, cond_true, cond_false, cond_somes, oK_some_eq, Bool.cond_true_left]
    have s4 : ∀ s : ByteArray, ((s.size : Int) != 4) = !(s.size == 4) := fun s => by rw [Bool.eq_iff_iff]; simp; omega
    rw [s4, s4]
    unfold boardOf
    by_cases hg : (tblOk x && (tblOk y && tblOk z)) = true ∧ x.fBody.size = 4 ∧ y.fBody.size = 4
    · obtain ⟨hok, hx4, hy4⟩ := hg
      have hz := (tblOk_facts (show tblOk z = true by simp only [Bool.and_eq_true] at hok; exact hok.2.2))
      obtain ⟨_, _, _, hz1, hz2⟩ := hz
      have bx : (x.fBody.size == 4) = true := by simpa using hx4
      have by' : (y.fBody.size == 4) = true := by simpa using hy4
      rw [hok, bx, by']
      simp only [Bool.not_true, Bool.false_or, cond_false, word4 N hx4, word4 N hy4]
      rw [impl_BoardOf_loop N (by omega) hz2 hN, impl_TablesOf_eq N hN, slices_Equal_table_eq N (by have := tables_length (wordAt x.fBody 0) (wordAt y.fBody 0) (devs z.fBody); omega) hN]
      by_cases ht : tables (wordAt x.fBody 0) (wordAt y.fBody 0) (devs z.fBody) = [x, y, z]
      · have hlen : (devs z.fBody).length ≤ 16 := boardFault_len (fr := wordAt x.fBody 0) (cp := wordAt y.fBody 0) (by
          cases hf : boardFault (wordAt x.fBody 0) (wordAt y.fBody 0) (devs z.fBody) != 0 with
          | false => rfl
          | true => unfold tables at ht; rw [hf] at ht; cases ht)
        rw [devs_length] at hlen
        rw [decide_eq_true ht, decide_eq_true (show z.fBody.size ≤ 64 by omega)]
        simp only [bx, by', Bool.and_self, cond_true, Bool.not_true, cond_false]
      · rw [decide_eq_false ht]
        simp only [Bool.and_false]
        rfl
    · have hj : (!(tblOk x && (tblOk y && tblOk z)) || (!(x.fBody.size == 4) || !(y.fBody.size == 4))) = true := by
        cases h1 : (tblOk x && (tblOk y && tblOk z)) with
        | false => rfl
        | true =>
          simp only [Bool.not_true, Bool.false_or, Bool.or_eq_true, Bool.not_eq_true', beq_eq_false_iff_ne, ne_eq]
          by_cases h2 : x.fBody.size = 4
          · exact .inr fun h3 => hg ⟨h1, h2, h3⟩
          · exact .inl h2
      rw [hj]
      have hb : ((x.fBody.size == 4) && ((y.fBody.size == 4) && (decide (z.fBody.size ≤ 64) && decide (tables (wordAt x.fBody 0) (wordAt y.fBody 0) (devs z.fBody) = [x, y, z])))) = false := by
        rw [← Bool.not_eq_true]
        intro hc
        simp only [Bool.and_eq_true, beq_iff_eq, decide_eq_true_eq] at hc
        have ht := hc.2.2.2
        refine hg ⟨?_, hc.1, hc.2.1⟩
        have hall := tables_ok (fr := wordAt x.fBody 0) (cp := wordAt y.fBody 0) (l := devs z.fBody)
        rw [ht] at hall
        rw [hall x (by simp), hall y (by simp), hall z (by simp)]; rfl
      simp only [hb]
      rfl
  · have h3' : ((l.length : Int) != 3) = true := by simp; omega
    rw [h3']
    unfold boardOf
    split
    · exact absurd rfl h3
    · rfl


theorem spec_BoardOf_eq {l : List FirmTable} {b : Bool} (hx : ∀ x ∈ l, x.fName.size ≤ 2 ^ 30 ∧ x.fBody.size ≤ 2 ^ 30) (hN : 2 ^ 40 < N) (k : Bool → Int → Int → Bool → List Device → Option R) :
    g_spec_BoardOf_w N b l k = k (boardOf l).1 (boardOf l).2.1 (boardOf l).2.2.1 (boardOf l).2.2.2.1 (boardOf l).2.2.2.2 := by
  unfold g_spec_BoardOf_w
  by_cases h3 : l.length = 3
  · obtain ⟨x, y, z, rfl⟩ := slice3 h3
    have e0 : ∀ f : FirmTable → Option R, elemK [x, y, z] 0 f = f x := fun f => rfl
    have e0b : ∀ f : FirmTable → Option Bool, elemK [x, y, z] 0 f = f x := fun f => rfl
    have e1 : ∀ f : FirmTable → Option R, elemK [x, y, z] 1 f = f y := fun f => rfl
    have e1b : ∀ f : FirmTable → Option Bool, elemK [x, y, z] 1 f = f y := fun f => rfl
    have e2b : ∀ f : FirmTable → Option Bool, elemK [x, y, z] 2 f = f z := fun f => rfl
    have g0 : decide ((0 : Int) < (([x, y, z].length : Nat) : Int)) = true := rfl
    have g1 : decide ((1 : Int) < (([x, y, z].length : Nat) : Int)) = true := rfl
    have g2 : decide ((2 : Int) < (([x, y, z].length : Nat) : Int)) = true := rfl
    have g3 : ((([x, y, z].length : Nat) : Int) != 3) = false := rfl
    simp only [e0, e0b, e1, e1b, e2b, g0, g1, g2, g3, cond_true, cond_false, cond_somes, oK_some_eq, Bool.cond_true_left]
    have s4 : ∀ s : ByteArray, ((s.size : Int) != 4) = !(s.size == 4) := fun s => by rw [Bool.eq_iff_iff]; simp; omega
    have s64 : decide ((z.fBody.size : Int) > 64) = !decide (z.fBody.size ≤ 64) := by rw [Bool.eq_iff_iff]; simp; omega
    rw [s4, s4, s64]
    unfold boardOf
    by_cases hg : x.fBody.size = 4 ∧ y.fBody.size = 4 ∧ z.fBody.size ≤ 64
    · obtain ⟨hx4, hy4, hz⟩ := hg
      have bx : (x.fBody.size == 4) = true := by simpa using hx4
      have by' : (y.fBody.size == 4) = true := by simpa using hy4
      rw [bx, by', decide_eq_true hz]
      simp only [Bool.not_true, Bool.false_or, Bool.or_false, cond_false, word4s N hx4, word4s N hy4, Bool.true_and]
      rw [spec_BoardOf_loop N (by omega) hN, spec_TablesOf_eq N hN]
      have ht3 := tables_length (wordAt x.fBody 0) (wordAt y.fBody 0) (devs z.fBody)
      generalize tables (wordAt x.fBody 0) (wordAt y.fBody 0) (devs z.fBody) = t at ht3 ⊢
      by_cases hl : t.length = 3
      · obtain ⟨u, v, w, rfl⟩ := slice3 hl
        have q0 : ∀ f : FirmTable → Option Bool, elemK [u, v, w] 0 f = f u := fun f => rfl
        have q1 : ∀ f : FirmTable → Option Bool, elemK [u, v, w] 1 f = f v := fun f => rfl
        have q2 : ∀ f : FirmTable → Option Bool, elemK [u, v, w] 2 f = f w := fun f => rfl
        have p0 : decide ((0 : Int) < (([u, v, w].length : Nat) : Int)) = true := rfl
        have p1 : decide ((1 : Int) < (([u, v, w].length : Nat) : Int)) = true := rfl
        have p2 : decide ((2 : Int) < (([u, v, w].length : Nat) : Int)) = true := rfl
        have p3 : ((([u, v, w].length : Nat) : Int) != 3) = false := rfl
        simp only [q0, q1, q2, p0, p1, p2, p3, cond_true, cond_false, cond_somes, oK_some_eq, Bool.cond_true_left, Bool.and_true, ft_beq]
        have hq : decide (([u, v, w] : List FirmTable) = [x, y, z]) = !(!decide (u = x) || (!decide (v = y) || !decide (w = z))) := by
          rw [Bool.eq_iff_iff]; simp
        rw [hq]
        simp only [bx, by', decide_eq_true hz, Bool.true_and]
        cases (!decide (u = x) || (!decide (v = y) || !decide (w = z))) <;> rfl
      · have h1 : ((t.length : Int) != 3) = true := by simp; omega
        have ht : decide (t = [x, y, z]) = false := decide_eq_false (fun e => hl (by rw [e]; rfl))
        rw [h1]
        simp only [ht, Bool.and_false]
        rfl
    · have hj : (!(x.fBody.size == 4) || (!(y.fBody.size == 4) || !decide (z.fBody.size ≤ 64))) = true := by
        simp only [Bool.or_eq_true, Bool.not_eq_true', beq_eq_false_iff_ne, ne_eq, decide_eq_false_iff_not]
        omega
      have hb : ((x.fBody.size == 4) && ((y.fBody.size == 4) && (decide (z.fBody.size ≤ 64) && decide (tables (wordAt x.fBody 0) (wordAt y.fBody 0) (devs z.fBody) = [x, y, z])))) = false := by
        rw [← Bool.not_eq_true]
        intro hc
        simp only [Bool.and_eq_true, beq_iff_eq, decide_eq_true_eq] at hc
        exact hg ⟨hc.1, hc.2.1, hc.2.2.1⟩
      rw [hj]
      simp only [hb]
      rfl
  · have h3' : ((l.length : Int) != 3) = true := by simp; omega
    rw [h3']
    unfold boardOf
    split
    · exact absurd rfl h3
    · rfl

theorem boardOf_len (l : List FirmTable) (hx : ∀ x ∈ l, x.fBody.size ≤ 2 ^ 30) : (boardOf l).2.2.2.2.length ≤ 2 ^ 30 := by
  unfold boardOf
  split
  · rename_i x y z
    have := hx z (by simp)
    cases ((x.fBody.size == 4) && ((y.fBody.size == 4) && (decide (z.fBody.size ≤ 64) && decide (tables (wordAt x.fBody 0) (wordAt y.fBody 0) (devs z.fBody) = [x, y, z])))) with
    | true =>
      show (devs z.fBody).length ≤ _
      rw [devs_length]; omega
    | false => exact Nat.zero_le _
  · exact Nat.zero_le _

theorem law_BoardOf {l : List FirmTable} {b : Bool} (hl : l.length ≤ maxLen) (hr : ∀ x ∈ l, ∀ v ∈ rlFirmTable.cells x, svWf v) (hN : 2 ^ 40 < N) (k : Bool → Option R) : g_laws_FnExactBoardOf_r N b l k = k true := by
  unfold g_laws_FnExactBoardOf_r
  have hx0 : ∀ x ∈ l, x.fName.size ≤ 9223372036854775807 ∧ x.fBody.size ≤ 9223372036854775807 := by
    intro x hm
    have h1 := hr x hm (.str x.fName) (by simp [rlFirmTable, tlFirmTable])
    have h2 := hr x hm (.str x.fBody) (by simp [rlFirmTable, tlFirmTable])
    exact ⟨h1, h2⟩
  obtain ⟨v, hv, hv2⟩ := laws_szFirmTableS_eq N (l := l) (b := b) (n := 1048576) (by omega) (by omega) hl hx0 hN (R := R)
  rw [hv]
  rcases hv2 with h | ⟨h0, h1, h2⟩
  · rw [decide_eq_true h]; rfl
  · have hl2 : l.length ≤ 2 ^ 40 := by omega
    have hx : ∀ x ∈ l, x.fName.size ≤ 2 ^ 30 ∧ x.fBody.size ≤ 2 ^ 30 := fun x hm => by have := h2 x hm; omega
    have hd := boardOf_len l (fun x hm => (hx x hm).2)
    rw [decide_eq_false (by omega), cond_false]
    simp only [laws_toFirmTableS_r_eq N hl2 hN, spec_BoardOf_eq N hx hN, impl_BoardOf_eq N hl2 hx hN, laws_eqFirmTableS_ww_eq N hl2 hN, g_laws_eqBoardRead_ww, g_laws_eqBoardRead_rr, g_laws_eqBoard_rr, g_laws_eqBoard_ww, laws_eqDeviceS_rr_eq N (show (boardOf l).2.2.2.2.length ≤ 2 ^ 40 by omega) hN, laws_eqDeviceS_ww_eq N (show (boardOf l).2.2.2.2.length ≤ 2 ^ 40 by omega) hN, laws_markFirmTableS_w_eq N hl2 (show (1 : Int) ≤ 1 by omega) (by omega) hN,
      g_laws_markBoardRead_w, g_laws_markBoard_w, g_laws_heldBoardRead_w, g_laws_heldBoard_w, laws_markDeviceS_w_eq N (show (boardOf l).2.2.2.2.length ≤ 2 ^ 40 by omega) (show (1 : Int) ≤ 1 by omega) (by omega) hN, laws_heldDeviceS_w_eq N (show (boardOf l).2.2.2.2.length ≤ 2 ^ 40 by omega) (show (1 : Int) ≤ 1 by omega) (by omega) hN,
      beq_self_eq_true, bne_self_eq_false, decide_true, Bool.not_true, cond_false, oK_some_eq, decide_eq_false (show ¬ (1 + 3 * (l.length : Int) < 0) by omega), decide_eq_false (show ¬ (1 + 3 * ((boardOf l).2.2.2.2.length : Int) < 0) by omega)]

end
end Go.Sa
