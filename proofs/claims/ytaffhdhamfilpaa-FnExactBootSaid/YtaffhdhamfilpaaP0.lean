import Derived.Test.YtaffhdhamfilpaaW10
set_option linter.all false
namespace Go.Sa
open Go Go.Eng
section
variable {R : Type} (N : Nat)
variable {R : Type}

theorem laws_eqPortValue_eq (x y : PortValue) (k : Bool → Option R) : g_laws_eqPortValue N x.fPort x.fValue y.fPort y.fValue k = k (decide (x = y)) := by
  unfold g_laws_eqPortValue
  by_cases h0 : x.fPort = y.fPort
  case neg =>
    rw [decide_eq_false (show ¬ x = y from fun e => h0 (by rw [e]))]
    simp only [bne_dec, beq_dec, h0, decide_false, Bool.not_false, cond_true]
  simp only [bne_dec, beq_dec, h0, decide_true, Bool.not_true, cond_false]
  by_cases h1 : x.fValue = y.fValue
  case neg =>
    rw [decide_eq_false (show ¬ x = y from fun e => h1 (by rw [e]))]
    simp only [bne_dec, beq_dec, h1, decide_false, Bool.not_false, cond_true]
  simp only [bne_dec, beq_dec, h1, decide_true, Bool.not_true, cond_false]
  rw [decide_eq_true (show x = y by cases x; cases y; simp_all)]

theorem laws_eqPortValueS_ww_eq {l m : List PortValue} {b b1 : Bool} (hl : l.length ≤ 2 ^ 40) (hN : 2 ^ 40 < N) (k : Bool → Option R) : g_laws_eqPortValueS_ww N b b1 l m k = k (decide (l = m)) := by
  unfold g_laws_eqPortValueS_ww
  by_cases h : l.length = m.length
  · rw [show ((l.length : Int) != (m.length : Int)) = false by simp [h]]
    unfold c_laws_eqPortValueS_ww_0
    refine (eql (l_laws_eqPortValueS_ww_0 N b b1 l m (k false) (k true)) l m h (k false) (k true) (fun f i x y hi hx hy => ?_) (fun f => ?_) (by omega)).trans ?_
    · simp only [l_laws_eqPortValueS_ww_0, s_laws_eqPortValueS_ww_0, dec_lt hi, dec_nn, Int.toNat_natCast, elemK_some hx, elemK_some hy, dec_lt (show i < m.length by omega), laws_eqPortValue_eq, wrap_next hi (by omega), Bool.and_true, cond_true]
    · simp only [l_laws_eqPortValueS_ww_0, s_laws_eqPortValueS_ww_0, dec_nlt, cond_false]
    · cases decide (l = m) <;> rfl
  · rw [show ((l.length : Int) != (m.length : Int)) = true by simp; omega]
    rw [decide_eq_false (fun e => h (by rw [e]))]
    rfl

theorem laws_eqPortValueS_rr_eq {l m : List PortValue} {b b1 : Bool} (hl : l.length ≤ 2 ^ 40) (hN : 2 ^ 40 < N) (k : Bool → Option R) : g_laws_eqPortValueS_rr N b b1 l m k = k (decide (l = m)) := by
  unfold g_laws_eqPortValueS_rr
  by_cases h : l.length = m.length
  · rw [show ((l.length : Int) != (m.length : Int)) = false by simp [h]]
    unfold c_laws_eqPortValueS_rr_0
    refine (eql (l_laws_eqPortValueS_rr_0 N b b1 l m (k false) (k true)) l m h (k false) (k true) (fun f i x y hi hx hy => ?_) (fun f => ?_) (by omega)).trans ?_
    · simp only [l_laws_eqPortValueS_rr_0, s_laws_eqPortValueS_rr_0, dec_lt hi, dec_nn, Int.toNat_natCast, elemK_some hx, elemK_some hy, dec_lt (show i < m.length by omega), laws_eqPortValue_eq, wrap_next hi (by omega), Bool.and_true, cond_true]
    · simp only [l_laws_eqPortValueS_rr_0, s_laws_eqPortValueS_rr_0, dec_nlt, cond_false]
    · cases decide (l = m) <;> rfl
  · rw [show ((l.length : Int) != (m.length : Int)) = true by simp; omega]
    rw [decide_eq_false (fun e => h (by rw [e]))]
    rfl

@[simp] theorem laws_toDevice_eq (a0 : Int) (a1 : Int) (a2 : Int) (k : Option R) : g_laws_toDevice N a0 a1 a2 k = k := rfl

theorem laws_toDeviceS_r_eq {l : List Device} {b : Bool} (hl : l.length ≤ 2 ^ 40) (hN : 2 ^ 40 < N) (k : List Device → Option R) : g_laws_toDeviceS_r N b l k = k l := by
  unfold g_laws_toDeviceS_r
  rw [Int.toNat_natCast, room (by omega) (by omega), dec_self]
  unfold c_laws_toDeviceS_r_0
  refine (copyl (l_laws_toDeviceS_r_0 N b false l (fun l4 => k l4)) l (fun x => x) k (fun f i ys x hi hy hx => ?_) (fun f ys hy => ?_) (by simp) (by omega)).trans (by rw [List.map_id'])
  · obtain ⟨y, hy1⟩ := nth_some (l := ys) (n := i) (by omega)
    simp only [l_laws_toDeviceS_r_0, s_laws_toDeviceS_r_0, laws_toDevice_eq, dec_lt hi, dec_nn, Int.toNat_natCast, elemK_some hx, elemK_some hy1, dec_lt (show i < ys.length by omega), blt_t (show i < ys.length by omega), wrap_next hi (by omega), Bool.and_true, cond_true]
  · simp only [l_laws_toDeviceS_r_0, s_laws_toDeviceS_r_0, dec_nlt, cond_false]

theorem laws_eqDevice_eq (x y : Device) (k : Bool → Option R) : g_laws_eqDevice N x.fKind x.fPort x.fLine y.fKind y.fPort y.fLine k = k (decide (x = y)) := by
  unfold g_laws_eqDevice
  by_cases h0 : x.fKind = y.fKind
  case neg =>
    rw [decide_eq_false (show ¬ x = y from fun e => h0 (by rw [e]))]
    simp only [bne_dec, beq_dec, h0, decide_false, Bool.not_false, cond_true]
  simp only [bne_dec, beq_dec, h0, decide_true, Bool.not_true, cond_false]
  by_cases h1 : x.fPort = y.fPort
  case neg =>
    rw [decide_eq_false (show ¬ x = y from fun e => h1 (by rw [e]))]
    simp only [bne_dec, beq_dec, h1, decide_false, Bool.not_false, cond_true]
  simp only [bne_dec, beq_dec, h1, decide_true, Bool.not_true, cond_false]
  by_cases h2 : x.fLine = y.fLine
  case neg =>
    rw [decide_eq_false (show ¬ x = y from fun e => h2 (by rw [e]))]
    simp only [bne_dec, beq_dec, h2, decide_false, Bool.not_false, cond_true]
  simp only [bne_dec, beq_dec, h2, decide_true, Bool.not_true, cond_false]
  rw [decide_eq_true (show x = y by cases x; cases y; simp_all)]

theorem laws_eqDeviceS_rr_eq {l m : List Device} {b b1 : Bool} (hl : l.length ≤ 2 ^ 40) (hN : 2 ^ 40 < N) (k : Bool → Option R) : g_laws_eqDeviceS_rr N b b1 l m k = k (decide (l = m)) := by
  unfold g_laws_eqDeviceS_rr
  by_cases h : l.length = m.length
  · rw [show ((l.length : Int) != (m.length : Int)) = false by simp [h]]
    unfold c_laws_eqDeviceS_rr_0
    refine (eql (l_laws_eqDeviceS_rr_0 N b b1 l m (k false) (k true)) l m h (k false) (k true) (fun f i x y hi hx hy => ?_) (fun f => ?_) (by omega)).trans ?_
    · simp only [l_laws_eqDeviceS_rr_0, s_laws_eqDeviceS_rr_0, dec_lt hi, dec_nn, Int.toNat_natCast, elemK_some hx, elemK_some hy, dec_lt (show i < m.length by omega), laws_eqDevice_eq, wrap_next hi (by omega), Bool.and_true, cond_true]
    · simp only [l_laws_eqDeviceS_rr_0, s_laws_eqDeviceS_rr_0, dec_nlt, cond_false]
    · cases decide (l = m) <;> rfl
  · rw [show ((l.length : Int) != (m.length : Int)) = true by simp; omega]
    rw [decide_eq_false (fun e => h (by rw [e]))]
    rfl

theorem laws_szDeviceS_r_eq {l : List Device} {b : Bool} (hl : l.length ≤ maxLen) (k : Int → Option R) : g_laws_szDeviceS_r N b 1048576 l k = k (cond (decide (1048576 < l.length)) (-1) (1048576 - (l.length : Int))) := by
  unfold g_laws_szDeviceS_r
  have hm : maxLen = 9223372036854775807 := rfl
  rw [w64 (by omega) (by omega)]
  by_cases h : 1048576 < l.length
  · rw [decide_eq_true h, decide_eq_true (by omega)]; rfl
  · rw [decide_eq_false h, decide_eq_false (by omega)]; rfl

@[simp] theorem impl_yin_eq (a lo hi : Int) (k : Bool → Option R) : g_impl_yin N a lo hi k = k (decide (a ≥ lo) && decide (a ≤ hi)) := by
  simp [g_impl_yin]

@[simp] theorem spec_l01IsWord_eq (a : Int) (k : Bool → Option R) : g_spec_l01IsWord N a k = k (decide (a ≥ 0) && decide (a < 4294967296)) := by
  simp [g_spec_l01IsWord]

def word (n : Int) : Int := n % 4294967296

def putWord (n : Int) : ByteArray := toBytes [word n % 256, word n / 256 % 256, word n / 65536 % 256, word n / 16777216 % 256]

theorem putWord_size (n : Int) : (putWord n).size = 4 := toBytes_size _

theorem impl_PutWord_eq (n : Int) (k : ByteArray → Option R) : g_impl_PutWord N n k = k (putWord n) := by
  simp only [g_impl_PutWord, Go.Eng.wu8, wu32, fdiv_lit _ (show (0 : Int) ≤ 256 by omega), fdiv_lit _ (show (0 : Int) ≤ 65536 by omega), fdiv_lit _ (show (0 : Int) ≤ 16777216 by omega), seg_all]
  rfl

theorem spec_l01Mod_eq {n m : Int} (hm : 0 < m) (hm2 : m ≤ 2 ^ 62) (k : Int → Option R) : g_spec_l01Mod N n m k = k (n % m) := by
  unfold g_spec_l01Mod
  obtain ⟨h1, h2⟩ := tmod_bound (n := n) hm
  rw [show (m == 0) = false by rw [beq_dec]; exact decide_eq_false (by omega), ← tmod_add (n := n) hm]
  by_cases h : n.tmod m < 0
  · rw [decide_eq_true h, if_pos h, w64 (by omega) (by omega)]; rfl
  · rw [decide_eq_false h, if_neg h]; rfl

theorem impl_ymod_eq {n m : Int} (hm : 0 < m) (hm2 : m ≤ 2 ^ 62) (k : Int → Option R) : g_impl_ymod N n m k = k (n % m) := by
  unfold g_impl_ymod
  obtain ⟨h1, h2⟩ := tmod_bound (n := n) hm
  rw [show (m == 0) = false by rw [beq_dec]; exact decide_eq_false (by omega), ← tmod_add (n := n) hm]
  by_cases h : n.tmod m < 0
  · rw [decide_eq_true h, if_pos h, w64 (by omega) (by omega)]; rfl
  · rw [decide_eq_false h, if_neg h]; rfl

theorem spec_Word_eq (n : Int) (k : Int → Option R) : g_spec_Word N n k = k (word n) := by
  unfold g_spec_Word
  rw [spec_l01Mod_eq N (by omega) (by omega)]
  rfl

theorem spec_PutWord_eq (n : Int) (k : ByteArray → Option R) : g_spec_PutWord N n k = k (putWord n) := by
  simp only [g_spec_PutWord, spec_Word_eq, Go.Eng.wu8, fdiv_lit _ (show (0 : Int) ≤ 256 by omega), fdiv_lit _ (show (0 : Int) ≤ 65536 by omega), fdiv_lit _ (show (0 : Int) ≤ 16777216 by omega), seg_all]
  rfl


/-- Texts, one behind the other. -/
def catB : List ByteArray → ByteArray
  | [] => ⟨[].toArray⟩
  | x :: l => x ++ catB l

theorem ba_append_empty (x : ByteArray) : x ++ (⟨[].toArray⟩ : ByteArray) = x := by
  apply ByteArray.ext
  simp

theorem ba_empty_append (x : ByteArray) : (⟨[].toArray⟩ : ByteArray) ++ x = x := by
  apply ByteArray.ext
  simp

theorem tmod_nn {n m : Int} (h : 0 ≤ n) : n.tmod m = n % m := Int.tmod_eq_emod_of_nonneg h

def dvB (x : Device) (p : Bool) : Bool :=
  !(decide (x.fKind ≥ 1) && decide (x.fKind ≤ 255)) || (!(decide (x.fPort ≥ 0) && decide (x.fPort ≤ 2047)) || (!(decide (x.fLine ≥ 0) && decide (x.fLine ≤ 6)) || p))

def dvBad (l : List Device) (i : Nat) : Bool :=
  match nth l i with
  | none => true
  | some x => dvB x (prevIs (fun y x => decide (y.fPort ≥ x.fPort)) l i x)

def boardFault (fr cp : Int) (l : List Device) : Int :=
  cond (!(decide (fr ≥ 2) && decide (fr ≤ 256)) || (!(decide (cp ≥ 1) && decide (cp ≤ 8)) || decide (l.length > 16))) 1 (cond ((List.range l.length).any (dvBad l)) 1 0)

theorem impl_BoardFault_eq {fr cp : Int} {l : List Device} {b : Bool} (hN : 2 ^ 40 < N) (k : Int → Option R) : g_impl_BoardFault_w N fr cp b l k = k (boardFault fr cp l) := by
  unfold g_impl_BoardFault_w boardFault
  have hg : decide ((l.length : Int) > 16) = decide (l.length > 16) := decide_eq_decide.2 (by omega)
  simp only [hg, impl_yin_eq, cond_somes, oK_some_eq, Bool.cond_true_left]
  by_cases hp : (!(decide (fr ≥ 2) && decide (fr ≤ 256)) || (!(decide (cp ≥ 1) && decide (cp ≤ 8)) || decide (l.length > 16))) = true
  · rw [hp]; rfl
  · rw [Bool.not_eq_true] at hp
    have hl : ¬ l.length > 16 := fun e => by rw [decide_eq_true e] at hp; simp at hp
    rw [hp]
    simp only [cond_false]
    unfold c_impl_BoardFault_w_0
    refine (srch (l_impl_BoardFault_w_0 N b l.length l fr cp b (k 1) (k 0)) l.length (dvBad l) (k 1) (k 0) (fun f i hi => ?_) (fun f => ?_) (by omega)).trans (cond_app _ k 1 0)
    · obtain ⟨x, hx⟩ := nth_some hi
      simp only [l_impl_BoardFault_w_0, s_impl_BoardFault_w_0, dec_lt hi, dec_nn, Int.toNat_natCast, elemK_some hx, wrap_next hi (by omega), Bool.and_true, cond_true, dvBad, hx]
      by_cases h0 : 0 < i
      · obtain ⟨y, hy⟩ := nth_some (l := l) (n := i - 1) (by omega)
        simp only [wrap_prev h0 (by omega), Int.toNat_natCast, elemK_some hy, prevIs, hy, dec_nn, dec_lt (show i - 1 < l.length by omega), decide_eq_true h0, decide_eq_true (show (i : Int) > 0 by omega), impl_yin_eq, Bool.and_true, cond_true, cond_somes, oK_some_eq, Bool.true_and]
        refine congrArg (fun c => cond c _ _) ?_
        rw [Bool.eq_iff_iff]
        simp [dvB]
      · have h00 : i = 0 := by omega
        subst h00
        simp only [prevIs, decide_eq_false (show ¬ (0 : Nat) < 0 by omega), decide_eq_false (show ¬ ((0 : Nat) : Int) > 0 by omega), impl_yin_eq, cond_somes, oK_some_eq, cond_false, Bool.false_and]
        refine congrArg (fun c => cond c _ _) ?_
        rw [Bool.eq_iff_iff]
        simp [dvB]
    · simp only [l_impl_BoardFault_w_0, s_impl_BoardFault_w_0, dec_nlt, cond_false]

theorem spec_BoardFault_eq {fr cp : Int} {l : List Device} {b : Bool} (hN : 2 ^ 40 < N) (k : Int → Option R) : g_spec_BoardFault_w N fr cp b l k = k (boardFault fr cp l) := by
  unfold g_spec_BoardFault_w boardFault
  have hg : decide ((l.length : Int) > 16) = decide (l.length > 16) := decide_eq_decide.2 (by omega)
  have hq : (decide (fr < 2) || (decide (fr > 256) || (decide (cp < 1) || (decide (cp > 8) || decide (l.length > 16))))) = (!(decide (fr ≥ 2) && decide (fr ≤ 256)) || (!(decide (cp ≥ 1) && decide (cp ≤ 8)) || decide (l.length > 16))) := by
    rw [Bool.eq_iff_iff]; simp; omega
  simp only [hg, cond_somes, oK_some_eq, Bool.cond_true_left, hq]
  by_cases hp : (!(decide (fr ≥ 2) && decide (fr ≤ 256)) || (!(decide (cp ≥ 1) && decide (cp ≤ 8)) || decide (l.length > 16))) = true
  · rw [hp]; rfl
  · rw [Bool.not_eq_true] at hp
    have hl : ¬ l.length > 16 := fun e => by rw [decide_eq_true e] at hp; simp at hp
    rw [hp]
    simp only [cond_false]
    unfold c_spec_BoardFault_w_0
    refine (srch (l_spec_BoardFault_w_0 N l fr cp b (k 1) (k 0)) l.length (dvBad l) (k 1) (k 0) (fun f i hi => ?_) (fun f => ?_) (by omega)).trans (cond_app _ k 1 0)
    · obtain ⟨x, hx⟩ := nth_some hi
      simp only [l_spec_BoardFault_w_0, s_spec_BoardFault_w_0, dec_lt hi, dec_nn, Int.toNat_natCast, elemK_some hx, wrap_next hi (by omega), Bool.and_true, cond_true, dvBad, hx]
      by_cases h0 : 0 < i
      · obtain ⟨y, hy⟩ := nth_some (l := l) (n := i - 1) (by omega)
        simp only [wrap_prev h0 (by omega), Int.toNat_natCast, elemK_some hy, prevIs, hy, dec_nn, dec_lt (show i - 1 < l.length by omega), decide_eq_true h0, decide_eq_true (show (i : Int) > 0 by omega), Bool.and_true, cond_true, cond_somes, oK_some_eq, Bool.true_and]
        refine congrArg (fun c => cond c _ _) ?_
        rw [Bool.eq_iff_iff]
        simp [dvB]
        omega
      · have h00 : i = 0 := by omega
        subst h00
        simp only [prevIs, decide_eq_false (show ¬ (0 : Nat) < 0 by omega), decide_eq_false (show ¬ ((0 : Nat) : Int) > 0 by omega), cond_somes, oK_some_eq, cond_false, Bool.false_and]
        refine congrArg (fun c => cond c _ _) ?_
        rw [Bool.eq_iff_iff]
        simp [dvB]
        omega
    · simp only [l_spec_BoardFault_w_0, s_spec_BoardFault_w_0, dec_nlt, cond_false]

def rowPortValue (k : Int) : PortValue := ⟨k, k + 1⟩

def rowsPortValue (k : Int) (n : Nat) : List PortValue := (List.range n).map fun (i : Nat) => rowPortValue (k + 2 * (i : Int))

theorem nth_rowsPortValue (k : Int) {n i : Nat} (h : i < n) : nth (rowsPortValue k n) i = some (rowPortValue (k + 2 * (i : Int))) := by
  unfold rowsPortValue
  rw [nth_map, nth_eq, List.getElem?_range h]
  rfl

theorem rowsPortValue_length (k : Int) (n : Nat) : (rowsPortValue k n).length = n := by simp [rowsPortValue]

theorem laws_markPortValueS_w_eq {l : List PortValue} {b : Bool} {k : Int} (hl : l.length ≤ 2 ^ 40) (hk : 1 ≤ k) (hk2 : k ≤ 2 ^ 50) (hN : 2 ^ 40 < N) (K : Int → List PortValue → Option R) : g_laws_markPortValueS_w N b k l K = K (k + 2 * (l.length : Int)) (rowsPortValue k l.length) := by
  unfold g_laws_markPortValueS_w c_laws_markPortValueS_w_0
  obtain ⟨h1, h2, h3, h4⟩ := fold (fun f i (s : Int × List PortValue) => l_laws_markPortValueS_w_0 N b (fun n l => K n l) f s.1 i s.2) l.length (fun i s => (s.1 + 2, nset s.2 i (rowPortValue s.1))) (fun i s => s.1 = k + 2 * (i : Int) ∧ s.2.length = l.length ∧ ∀ j : Nat, j < i → nth s.2 j = some (rowPortValue (k + 2 * (j : Int)))) (fun s => K s.1 s.2)
    (fun f i s0 hi hs => by
      obtain ⟨s, ys⟩ := s0
      obtain ⟨hs1, hs2, hs3⟩ := hs
      dsimp only at hs1 hs2 hs3
      obtain ⟨x, hx⟩ := nth_some (l := ys) (n := i) (by omega)
      have e1 : IntKind.wrap .i64 (s + 1) = s + 1 := by rw [w64 (by omega) (by omega)]
      have e2 : IntKind.wrap .i64 (s + 1 + 1) = s + 2 := by rw [w64 (by omega) (by omega)]; omega
      refine ⟨?_, by dsimp only; omega, by simpa using hs2, fun j hj => ?_⟩
      · simp only [l_laws_markPortValueS_w_0, s_laws_markPortValueS_w_0, dec_lt hi, dec_lt (show i < ys.length by omega), dec_nn, Int.toNat_natCast, hs2, nset_length, elemK_some hx, elemK_nset (show i < ys.length by omega), nset_nset, blt_t hi, blt_t (show i < ys.length by omega), wrap_next hi (by omega), Bool.and_true, cond_true, e1, e2]
        rfl
      · dsimp only
        rw [nth_nset]
        split
        · rename_i hc; obtain ⟨rfl, _⟩ := hc; rw [hs1]
        · rename_i hc; exact hs3 j (by have : j ≠ i := fun e => hc ⟨e, by omega⟩; omega))
    (fun f s0 hs => by
      obtain ⟨s, ys⟩ := s0
      obtain ⟨hs1, hs2, hs3⟩ := hs
      dsimp only at hs2
      simp only [l_laws_markPortValueS_w_0, s_laws_markPortValueS_w_0, hs2, dec_nlt, cond_false]) (s := (k, l)) ⟨by simp, rfl, fun j hj => by omega⟩ (f := N) (by omega)
  refine h1.trans ?_
  rw [h2]
  congr 1
  refine ext_nth fun j => ?_
  rcases Nat.lt_or_ge j l.length with hj | hj
  · rw [h4 j hj, nth_rowsPortValue k hj]
  · rw [nth_none (by rw [h3]; exact hj), nth_none (by rw [rowsPortValue_length]; exact hj)]

theorem laws_heldPortValueS_w_eq {n : Nat} {b : Bool} {k : Int} (hl : n ≤ 2 ^ 40) (hk : 1 ≤ k) (hk2 : k ≤ 2 ^ 50) (hN : 2 ^ 40 < N) (K : Int → Option R) : g_laws_heldPortValueS_w N b k (rowsPortValue k n) K = K (k + 2 * (n : Int)) := by
  unfold g_laws_heldPortValueS_w c_laws_heldPortValueS_w_0
  obtain ⟨h1, h2⟩ := fold (fun f i (s : Int) => l_laws_heldPortValueS_w_0 N b (rowsPortValue k n) (fun _ => K (-1)) (fun n => K n) f s i) n (fun _ s => s + 2) (fun i s => s = k + 2 * (i : Int)) (fun s => K s)
    (fun f i s hi hs => by
      have hr : rowPortValue (k + 2 * (i : Int)) = rowPortValue s := by rw [hs]
      have hx : nth (rowsPortValue k n) i = some (rowPortValue s) := by rw [nth_rowsPortValue k hi, hr]
      have e1 : IntKind.wrap .i64 (s + 1) = s + 1 := by rw [w64 (by omega) (by omega)]
      have e2 : IntKind.wrap .i64 (s + 1 + 1) = s + 2 := by rw [w64 (by omega) (by omega)]; omega
      refine ⟨?_, by omega⟩
      simp only [l_laws_heldPortValueS_w_0, s_laws_heldPortValueS_w_0, rowsPortValue_length, dec_lt hi, dec_nn, Int.toNat_natCast, elemK_some hx, rowPortValue, bne_self_eq_false, beq_self_eq_true, decide_true, Bool.not_true, cond_false, wrap_next hi (by omega), Bool.and_true, cond_true, e1, e2])
    (fun f s hs => by
      simp only [l_laws_heldPortValueS_w_0, s_laws_heldPortValueS_w_0, rowsPortValue_length, dec_nlt, cond_false]) (s := k) (by simp) (f := N) (by omega)
  refine h1.trans ?_
  rw [h2]

def rowDevice (k : Int) : Device := ⟨k, k + 1, k + 2⟩

def rowsDevice (k : Int) (n : Nat) : List Device := (List.range n).map fun (i : Nat) => rowDevice (k + 3 * (i : Int))

theorem nth_rowsDevice (k : Int) {n i : Nat} (h : i < n) : nth (rowsDevice k n) i = some (rowDevice (k + 3 * (i : Int))) := by
  unfold rowsDevice
  rw [nth_map, nth_eq, List.getElem?_range h]
  rfl

theorem rowsDevice_length (k : Int) (n : Nat) : (rowsDevice k n).length = n := by simp [rowsDevice]

theorem laws_markDeviceS_w_eq {l : List Device} {b : Bool} {k : Int} (hl : l.length ≤ 2 ^ 40) (hk : 1 ≤ k) (hk2 : k ≤ 2 ^ 50) (hN : 2 ^ 40 < N) (K : Int → List Device → Option R) : g_laws_markDeviceS_w N b k l K = K (k + 3 * (l.length : Int)) (rowsDevice k l.length) := by
  unfold g_laws_markDeviceS_w c_laws_markDeviceS_w_0
  obtain ⟨h1, h2, h3, h4⟩ := fold (fun f i (s : Int × List Device) => l_laws_markDeviceS_w_0 N b (fun n l => K n l) f s.1 i s.2) l.length (fun i s => (s.1 + 3, nset s.2 i (rowDevice s.1))) (fun i s => s.1 = k + 3 * (i : Int) ∧ s.2.length = l.length ∧ ∀ j : Nat, j < i → nth s.2 j = some (rowDevice (k + 3 * (j : Int)))) (fun s => K s.1 s.2)
    (fun f i s0 hi hs => by
      obtain ⟨s, ys⟩ := s0
      obtain ⟨hs1, hs2, hs3⟩ := hs
      dsimp only at hs1 hs2 hs3
      obtain ⟨x, hx⟩ := nth_some (l := ys) (n := i) (by omega)
      have e1 : IntKind.wrap .i64 (s + 1) = s + 1 := by rw [w64 (by omega) (by omega)]
      have e2 : IntKind.wrap .i64 (s + 1 + 1) = s + 2 := by rw [w64 (by omega) (by omega)]; omega
      have e3 : IntKind.wrap .i64 (s + 2 + 1) = s + 3 := by rw [w64 (by omega) (by omega)]; omega
      refine ⟨?_, by dsimp only; omega, by simpa using hs2, fun j hj => ?_⟩
      · simp only [l_laws_markDeviceS_w_0, s_laws_markDeviceS_w_0, dec_lt hi, dec_lt (show i < ys.length by omega), dec_nn, Int.toNat_natCast, hs2, nset_length, elemK_some hx, elemK_nset (show i < ys.length by omega), nset_nset, blt_t hi, blt_t (show i < ys.length by omega), wrap_next hi (by omega), Bool.and_true, cond_true, e1, e2, e3]
        rfl
      · dsimp only
        rw [nth_nset]
        split
        · rename_i hc; obtain ⟨rfl, _⟩ := hc; rw [hs1]
        · rename_i hc; exact hs3 j (by have : j ≠ i := fun e => hc ⟨e, by omega⟩; omega))
    (fun f s0 hs => by
      obtain ⟨s, ys⟩ := s0
      obtain ⟨hs1, hs2, hs3⟩ := hs
      dsimp only at hs2
      simp only [l_laws_markDeviceS_w_0, s_laws_markDeviceS_w_0, hs2, dec_nlt, cond_false]) (s := (k, l)) ⟨by simp, rfl, fun j hj => by omega⟩ (f := N) (by omega)
  refine h1.trans ?_
  rw [h2]
  congr 1
  refine ext_nth fun j => ?_
  rcases Nat.lt_or_ge j l.length with hj | hj
  · rw [h4 j hj, nth_rowsDevice k hj]
  · rw [nth_none (by rw [h3]; exact hj), nth_none (by rw [rowsDevice_length]; exact hj)]

def rowInt64 (k : Int) : Int := k

def rowsInt64 (k : Int) (n : Nat) : List Int := (List.range n).map fun (i : Nat) => rowInt64 (k + 1 * (i : Int))

theorem nth_rowsInt64 (k : Int) {n i : Nat} (h : i < n) : nth (rowsInt64 k n) i = some (rowInt64 (k + 1 * (i : Int))) := by
  unfold rowsInt64
  rw [nth_map, nth_eq, List.getElem?_range h]
  rfl

theorem rowsInt64_length (k : Int) (n : Nat) : (rowsInt64 k n).length = n := by simp [rowsInt64]

theorem laws_markInt64S_w_eq {l : List Int} {b : Bool} {k : Int} (hl : l.length ≤ 2 ^ 40) (hk : 1 ≤ k) (hk2 : k ≤ 2 ^ 50) (hN : 2 ^ 40 < N) (K : Int → List Int → Option R) : g_laws_markInt64S_w N b k l K = K (k + 1 * (l.length : Int)) (rowsInt64 k l.length) := by
  unfold g_laws_markInt64S_w c_laws_markInt64S_w_0
  obtain ⟨h1, h2, h3, h4⟩ := fold (fun f i (s : Int × List Int) => l_laws_markInt64S_w_0 N b (fun n l => K n l) f s.1 i s.2) l.length (fun i s => (s.1 + 1, nset s.2 i (rowInt64 s.1))) (fun i s => s.1 = k + 1 * (i : Int) ∧ s.2.length = l.length ∧ ∀ j : Nat, j < i → nth s.2 j = some (rowInt64 (k + 1 * (j : Int)))) (fun s => K s.1 s.2)
    (fun f i s0 hi hs => by
      obtain ⟨s, ys⟩ := s0
      obtain ⟨hs1, hs2, hs3⟩ := hs
      dsimp only at hs1 hs2 hs3
      obtain ⟨x, hx⟩ := nth_some (l := ys) (n := i) (by omega)
      have e1 : IntKind.wrap .i64 (s + 1) = s + 1 := by rw [w64 (by omega) (by omega)]
      refine ⟨?_, by dsimp only; omega, by simpa using hs2, fun j hj => ?_⟩
      · simp only [l_laws_markInt64S_w_0, s_laws_markInt64S_w_0, dec_lt hi, dec_lt (show i < ys.length by omega), dec_nn, Int.toNat_natCast, hs2, nset_length, elemK_some hx, elemK_nset (show i < ys.length by omega), nset_nset, blt_t hi, blt_t (show i < ys.length by omega), wrap_next hi (by omega), Bool.and_true, cond_true, e1]
        rfl
      · dsimp only
        rw [nth_nset]
        split
        · rename_i hc; obtain ⟨rfl, _⟩ := hc; rw [hs1]
        · rename_i hc; exact hs3 j (by have : j ≠ i := fun e => hc ⟨e, by omega⟩; omega))
    (fun f s0 hs => by
      obtain ⟨s, ys⟩ := s0
      obtain ⟨hs1, hs2, hs3⟩ := hs
      dsimp only at hs2
      simp only [l_laws_markInt64S_w_0, s_laws_markInt64S_w_0, hs2, dec_nlt, cond_false]) (s := (k, l)) ⟨by simp, rfl, fun j hj => by omega⟩ (f := N) (by omega)
  refine h1.trans ?_
  rw [h2]
  congr 1
  refine ext_nth fun j => ?_
  rcases Nat.lt_or_ge j l.length with hj | hj
  · rw [h4 j hj, nth_rowsInt64 k hj]
  · rw [nth_none (by rw [h3]; exact hj), nth_none (by rw [rowsInt64_length]; exact hj)]

theorem laws_heldInt64S_w_eq {n : Nat} {b : Bool} {k : Int} (hl : n ≤ 2 ^ 40) (hk : 1 ≤ k) (hk2 : k ≤ 2 ^ 50) (hN : 2 ^ 40 < N) (K : Int → Option R) : g_laws_heldInt64S_w N b k (rowsInt64 k n) K = K (k + 1 * (n : Int)) := by
  unfold g_laws_heldInt64S_w c_laws_heldInt64S_w_0
  obtain ⟨h1, h2⟩ := fold (fun f i (s : Int) => l_laws_heldInt64S_w_0 N b (rowsInt64 k n) (fun _ => K (-1)) (fun n => K n) f s i) n (fun _ s => s + 1) (fun i s => s = k + 1 * (i : Int)) (fun s => K s)
    (fun f i s hi hs => by
      have hr : rowInt64 (k + 1 * (i : Int)) = rowInt64 s := by rw [hs]
      have hx : nth (rowsInt64 k n) i = some (rowInt64 s) := by rw [nth_rowsInt64 k hi, hr]
      have e1 : IntKind.wrap .i64 (s + 1) = s + 1 := by rw [w64 (by omega) (by omega)]
      refine ⟨?_, by omega⟩
      simp only [l_laws_heldInt64S_w_0, s_laws_heldInt64S_w_0, rowsInt64_length, dec_lt hi, dec_nn, Int.toNat_natCast, elemK_some hx, rowInt64, bne_self_eq_false, beq_self_eq_true, decide_true, Bool.not_true, cond_false, wrap_next hi (by omega), Bool.and_true, cond_true, e1])
    (fun f s hs => by
      simp only [l_laws_heldInt64S_w_0, s_laws_heldInt64S_w_0, rowsInt64_length, dec_nlt, cond_false]) (s := k) (by simp) (f := N) (by omega)
  refine h1.trans ?_
  rw [h2]

def devWord (x : Device) : Int := IntKind.wrap .i64 (IntKind.wrap .i64 (IntKind.wrap .i64 (x.fKind * 16777216) + IntKind.wrap .i64 (x.fLine * 65536)) + x.fPort)

def devWords (l : List Device) : ByteArray := l.foldl (fun s x => s ++ putWord (devWord x)) ⟨[].toArray⟩

def tables (fr cp : Int) (l : List Device) : List FirmTable := cond (boardFault fr cp l != 0) []
  [⟨⟨[(77 : UInt8), (69 : UInt8), (77 : UInt8), (79 : UInt8)].toArray⟩, 1, putWord fr⟩, ⟨⟨[(67 : UInt8), (80 : UInt8), (85 : UInt8), (83 : UInt8)].toArray⟩, 1, putWord cp⟩, ⟨⟨[(68 : UInt8), (69 : UInt8), (86 : UInt8), (83 : UInt8)].toArray⟩, 1, devWords l⟩]

theorem boardFault_len {fr cp : Int} {l : List Device} (h : (boardFault fr cp l != 0) = false) : l.length ≤ 16 := by
  unfold boardFault at h
  rcases Nat.lt_or_ge 16 l.length with hl | hl
  · rw [decide_eq_true (show l.length > 16 from hl)] at h
    simp at h
  · exact hl

theorem impl_TablesOf_eq {fr cp : Int} {l : List Device} {b : Bool} (hN : 2 ^ 40 < N) (k : Bool → List FirmTable → Option R) : g_impl_TablesOf_w N fr cp b l k = k (boardFault fr cp l != 0) (tables fr cp l) := by
  unfold g_impl_TablesOf_w tables
  rw [impl_BoardFault_eq N hN]
  by_cases h : (boardFault fr cp l != 0) = true
  · rw [h]; rfl
  · rw [Bool.not_eq_true] at h
    have hl := boardFault_len h
    rw [h]
    simp only [cond_false]
    unfold c_impl_TablesOf_w_0
    have h1 := fold (fun f i s => l_impl_TablesOf_w_0 N b l.length l fr cp b (fun s2 => g_impl_PutWord N fr fun s3 => g_impl_PutWord N cp fun s4 => k false [⟨⟨[(77 : UInt8), (69 : UInt8), (77 : UInt8), (79 : UInt8)].toArray⟩, 1, s3⟩, ⟨⟨[(67 : UInt8), (80 : UInt8), (85 : UInt8), (83 : UInt8)].toArray⟩, 1, s4⟩, ⟨⟨[(68 : UInt8), (69 : UInt8), (86 : UInt8), (83 : UInt8)].toArray⟩, 1, s2⟩]) f s i) l.length (fun i s => atD l i (fun x => s ++ putWord (devWord x)) s) (fun i s => s.size = 4 * i) _ (fun f i s hi hs => by
      obtain ⟨x, hx⟩ := nth_some hi
      simp only [l_impl_TablesOf_w_0, s_impl_TablesOf_w_0, dec_lt hi, dec_nn, Int.toNat_natCast, elemK_some hx, wrap_next hi (by omega), Bool.and_true, cond_true, impl_PutWord_eq, atD_some hx, ble_t (show s.size + (putWord (IntKind.wrap .i64 (IntKind.wrap .i64 (IntKind.wrap .i64 (x.fKind * 16777216) + IntKind.wrap .i64 (x.fLine * 65536)) + x.fPort))).size ≤ 9223372036854775807 by rw [putWord_size]; omega)]
      refine ⟨rfl, ?_⟩
      rw [ByteArray.size_append, putWord_size]; omega) (fun f s hs => by
      simp only [l_impl_TablesOf_w_0, s_impl_TablesOf_w_0, dec_nlt, cond_false]
      rfl) (s := ⟨[].toArray⟩) rfl (f := N) (by omega)
    rw [foldl_atD l (fun s x => s ++ putWord (devWord x))] at h1
    refine h1.1.trans ?_
    simp only [impl_PutWord_eq]
    rfl

theorem spec_TablesOf_eq {fr cp : Int} {l : List Device} {b : Bool} (hN : 2 ^ 40 < N) (k : List FirmTable → Option R) : g_spec_TablesOf_w N fr cp b l k = k (tables fr cp l) := by
  unfold g_spec_TablesOf_w tables
  rw [spec_BoardFault_eq N hN]
  by_cases h : (boardFault fr cp l != 0) = true
  · rw [h]; rfl
  · rw [Bool.not_eq_true] at h
    have hl := boardFault_len h
    rw [h]
    simp only [cond_false]
    unfold c_spec_TablesOf_w_0
    have h1 := fold (fun f i s => l_spec_TablesOf_w_0 N l fr cp b (fun s2 => g_spec_PutWord N fr fun s3 => g_spec_PutWord N cp fun s4 => k [⟨⟨[(77 : UInt8), (69 : UInt8), (77 : UInt8), (79 : UInt8)].toArray⟩, 1, s3⟩, ⟨⟨[(67 : UInt8), (80 : UInt8), (85 : UInt8), (83 : UInt8)].toArray⟩, 1, s4⟩, ⟨⟨[(68 : UInt8), (69 : UInt8), (86 : UInt8), (83 : UInt8)].toArray⟩, 1, s2⟩]) f s i) l.length (fun i s => atD l i (fun x => s ++ putWord (devWord x)) s) (fun i s => s.size = 4 * i) _ (fun f i s hi hs => by
      obtain ⟨x, hx⟩ := nth_some hi
      simp only [l_spec_TablesOf_w_0, s_spec_TablesOf_w_0, dec_lt hi, dec_nn, Int.toNat_natCast, elemK_some hx, wrap_next hi (by omega), Bool.and_true, cond_true, spec_PutWord_eq, atD_some hx, ble_t (show s.size + (putWord (IntKind.wrap .i64 (IntKind.wrap .i64 (IntKind.wrap .i64 (x.fKind * 16777216) + IntKind.wrap .i64 (x.fLine * 65536)) + x.fPort))).size ≤ 9223372036854775807 by rw [putWord_size]; omega)]
      refine ⟨rfl, ?_⟩
      rw [ByteArray.size_append, putWord_size]; omega) (fun f s hs => by
      simp only [l_spec_TablesOf_w_0, s_spec_TablesOf_w_0, dec_nlt, cond_false]
      rfl) (s := ⟨[].toArray⟩) rfl (f := N) (by omega)
    rw [foldl_atD l (fun s x => s ++ putWord (devWord x))] at h1
    refine h1.1.trans ?_
    simp only [spec_PutWord_eq]
    rfl

theorem tables_length (fr cp : Int) (l : List Device) : (tables fr cp l).length ≤ 3 := by
  unfold tables
  cases (boardFault fr cp l != 0) <;> simp

def byteSum (s : ByteArray) : Int := (List.range s.size).foldl (fun a i => a + bt s i) 0

theorem spec_l21Bytes_eq {s : ByteArray} (hs : s.size ≤ 2 ^ 40) (hN : 2 ^ 40 < N) (k : Int → Option R) : g_spec_l21Bytes N s k = k (byteSum s) ∧ 0 ≤ byteSum s ∧ byteSum s ≤ 255 * s.size := by
  unfold g_spec_l21Bytes c_spec_l21Bytes_0
  obtain ⟨h1, h2, h3⟩ := fold (fun f i a => l_spec_l21Bytes_0 N s (fun n2 => k n2) f a i) s.size (fun i a => a + bt s i) (fun i a => 0 ≤ a ∧ a ≤ 255 * (i : Int)) k (fun f i a hi ha => by
      obtain ⟨b1, b2⟩ := bt_bound s i
      simp only [l_spec_l21Bytes_0, s_spec_l21Bytes_0, dec_lt hi, dec_nn, Int.toNat_natCast, wrap_next hi (by omega), Bool.and_true, cond_true, w64 (show -9223372036854775808 ≤ bt s i by omega) (show bt s i < 9223372036854775808 by omega), w64 (show -9223372036854775808 ≤ a + bt s i by omega) (show a + bt s i < 9223372036854775808 by omega)]
      exact ⟨trivial, by omega, by omega⟩) (fun f a ha => by
      simp only [l_spec_l21Bytes_0, s_spec_l21Bytes_0, dec_nlt, cond_false]) (s := 0) ⟨by omega, by omega⟩ (f := N) (by omega)
  exact ⟨h1, h2, h3⟩

theorem impl_ybyteSum_eq {s : ByteArray} (hs : s.size ≤ 2 ^ 40) (hN : 2 ^ 40 < N) (k : Int → Option R) : g_impl_ybyteSum N s k = k (byteSum s % 256) := by
  unfold g_impl_ybyteSum c_impl_ybyteSum_0
  obtain ⟨h1, h2, h3⟩ := fold (fun f i a => l_impl_ybyteSum_0 N s s.size (fun n3 => k (IntKind.wrap .i64 (((BitVec.ofInt 64 n3 &&& BitVec.ofInt 64 255).toNat : Nat) : Int))) f a i) s.size (fun i a => a + bt s i) (fun i a => 0 ≤ a ∧ a ≤ 255 * (i : Int)) (fun n3 => k (IntKind.wrap .i64 (((BitVec.ofInt 64 n3 &&& BitVec.ofInt 64 255).toNat : Nat) : Int))) (fun f i a hi ha => by
      obtain ⟨b1, b2⟩ := bt_bound s i
      simp only [l_impl_ybyteSum_0, s_impl_ybyteSum_0, dec_lt hi, dec_nn, Int.toNat_natCast, wrap_next hi (by omega), Bool.and_true, cond_true, w64 (show -9223372036854775808 ≤ bt s i by omega) (show bt s i < 9223372036854775808 by omega), w64 (show -9223372036854775808 ≤ a + bt s i by omega) (show a + bt s i < 9223372036854775808 by omega)]
      exact ⟨trivial, by omega, by omega⟩) (fun f a ha => by
      simp only [l_impl_ybyteSum_0, s_impl_ybyteSum_0, dec_nlt, cond_false]) (s := 0) ⟨by omega, by omega⟩ (f := N) (by omega)
  refine h1.trans ?_
  rw [and255]
  rfl

def wordAt (s : ByteArray) (i : Nat) : Int := bt s i + bt s (i + 1) * 256 + bt s (i + 2) * 65536 + bt s (i + 3) * 16777216

theorem wordAt_bound (s : ByteArray) (i : Nat) : 0 ≤ wordAt s i ∧ wordAt s i < 4294967296 := by
  have h0 := bt_bound s i
  have h1 := bt_bound s (i + 1)
  have h2 := bt_bound s (i + 2)
  have h3 := bt_bound s (i + 3)
  unfold wordAt
  omega

theorem spec_l01Word_eq {s : ByteArray} {i : Nat} (h : i + 4 ≤ s.size) (hs : s.size ≤ 2 ^ 60) (k : Int → Option R) : g_spec_l01Word N s (i : Int) k = k (wordAt s i) := by
  have h0 := bt_bound s i
  have h1 := bt_bound s (i + 1)
  have h2 := bt_bound s (i + 2)
  have h3 := bt_bound s (i + 3)
  have e1 : IntKind.wrap .i64 ((i : Int) + 1) = ((i + 1 : Nat) : Int) := by rw [w64 (by omega) (by omega)]; omega
  have e2 : IntKind.wrap .i64 ((i : Int) + 2) = ((i + 2 : Nat) : Int) := by rw [w64 (by omega) (by omega)]; omega
  have e3 : IntKind.wrap .i64 ((i : Int) + 3) = ((i + 3 : Nat) : Int) := by rw [w64 (by omega) (by omega)]; omega
  simp only [g_spec_l01Word, e1, e2, e3, dec_nn, dec_lt (show i < s.size by omega), dec_lt (show i + 1 < s.size by omega), dec_lt (show i + 2 < s.size by omega), dec_lt (show i + 3 < s.size by omega), Bool.and_true, cond_true, Int.toNat_natCast]
  rw [w64 (n := bt s i) (by omega) (by omega), w64 (n := bt s (i + 1)) (by omega) (by omega), w64 (n := bt s (i + 2)) (by omega) (by omega), w64 (n := bt s (i + 3)) (by omega) (by omega), w64 (n := bt s (i + 1) * 256) (by omega) (by omega), w64 (n := bt s (i + 2) * 65536) (by omega) (by omega), w64 (n := bt s (i + 3) * 16777216) (by omega) (by omega), w64 (n := bt s i + bt s (i + 1) * 256) (by omega) (by omega), w64 (n := bt s i + bt s (i + 1) * 256 + bt s (i + 2) * 65536) (by omega) (by omega), w64 (n := bt s i + bt s (i + 1) * 256 + bt s (i + 2) * 65536 + bt s (i + 3) * 16777216) (by omega) (by omega)]
  rfl

theorem or_word (a b c d : Int) (ha : 0 ≤ a ∧ a ≤ 255) (hb : 0 ≤ b ∧ b ≤ 255) (hc : 0 ≤ c ∧ c ≤ 255) (hd : 0 ≤ d ∧ d ≤ 255) :
    IntKind.wrap .i64 (((BitVec.ofInt 64 (IntKind.wrap .i64 (((BitVec.ofInt 64 (IntKind.wrap .i64 (((BitVec.ofInt 64 a ||| BitVec.ofInt 64 (b * 256)).toNat : Nat) : Int)) ||| BitVec.ofInt 64 (c * 65536)).toNat : Nat) : Int)) ||| BitVec.ofInt 64 (d * 16777216)).toNat : Nat) : Int) = a + b * 256 + c * 65536 + d * 16777216 := by
  have com : ∀ x y : Int, (BitVec.ofInt 64 x ||| BitVec.ofInt 64 y) = (BitVec.ofInt 64 y ||| BitVec.ofInt 64 x) := fun x y => BitVec.or_comm _ _
  have h1 := or_add (a := b * 256) (b := a) 8 (by omega) (by omega) (by omega) (by omega) (by omega)
  have h2 := or_add (a := c * 65536) (b := b * 256 + a) 16 (by omega) (by omega) (by omega) (by omega) (by omega)
  have h3 := or_add (a := d * 16777216) (b := c * 65536 + (b * 256 + a)) 24 (by omega) (by omega) (by omega) (by omega) (by omega)
  rw [com a, h1, com (b * 256 + a), h2, com (c * 65536 + (b * 256 + a)), h3]
  omega

theorem impl_ywordAt_eq {s : ByteArray} {i : Nat} (h : i + 4 ≤ s.size) (hs : s.size ≤ 2 ^ 60) (k : Int → Option R) : g_impl_ywordAt N s (i : Int) k = k (wordAt s i) := by
  have h0 := bt_bound s i
  have h1 := bt_bound s (i + 1)
  have h2 := bt_bound s (i + 2)
  have h3 := bt_bound s (i + 3)
  have e1 : IntKind.wrap .i64 ((i : Int) + 1) = ((i + 1 : Nat) : Int) := by rw [w64 (by omega) (by omega)]; omega
  have e2 : IntKind.wrap .i64 ((i : Int) + 2) = ((i + 2 : Nat) : Int) := by rw [w64 (by omega) (by omega)]; omega
  have e3 : IntKind.wrap .i64 ((i : Int) + 3) = ((i + 3 : Nat) : Int) := by rw [w64 (by omega) (by omega)]; omega
  simp only [g_impl_ywordAt, e1, e2, e3, dec_nn, dec_lt (show i < s.size by omega), dec_lt (show i + 1 < s.size by omega), dec_lt (show i + 2 < s.size by omega), dec_lt (show i + 3 < s.size by omega), Bool.and_true, cond_true, Int.toNat_natCast]
  rw [w64 (n := bt s i) (by omega) (by omega), w64 (n := bt s (i + 1)) (by omega) (by omega), w64 (n := bt s (i + 2)) (by omega) (by omega), w64 (n := bt s (i + 3)) (by omega) (by omega), w64 (n := bt s (i + 1) * 256) (by omega) (by omega), w64 (n := bt s (i + 2) * 65536) (by omega) (by omega), w64 (n := bt s (i + 3) * 16777216) (by omega) (by omega), or_word _ _ _ _ h0 h1 h2 h3]
  rfl

def wordSum (s : ByteArray) : Int := (List.range (s.size / 4)).foldl (fun a j => a + wordAt s (4 * j)) 0

theorem spec_l21Words_eq {s : ByteArray} (hs : s.size ≤ 2 ^ 30) (hN : 2 ^ 40 < N) (k : Int → Option R) : g_spec_l21Words N s k = k (wordSum s) ∧ 0 ≤ wordSum s ∧ wordSum s ≤ 4294967296 * (s.size / 4 : Nat) := by
  unfold g_spec_l21Words c_spec_l21Words_0
  obtain ⟨h1, h2, h3⟩ := fold (fun f i a => l_spec_l21Words_0 N s (fun n3 => k n3) f a (4 * i)) (s.size / 4) (fun j a => a + wordAt s (4 * j)) (fun i a => 0 ≤ a ∧ a ≤ 4294967296 * (i : Int)) k (fun f i a hi ha => by
      obtain ⟨b1, b2⟩ := wordAt_bound s (4 * i)
      have e4 : (4 * (i : Int)) = ((4 * i : Nat) : Int) := by omega
      have e5 : IntKind.wrap .i64 (((4 * i : Nat) : Int) + 4) = 4 * ((i + 1 : Nat) : Int) := by rw [w64 (by omega) (by omega)]; omega
      simp only [e4, l_spec_l21Words_0, s_spec_l21Words_0, e5, decide_eq_true (show 4 * ((i + 1 : Nat) : Int) ≤ (s.size : Int) by omega), spec_l01Word_eq N (show 4 * i + 4 ≤ s.size by omega) (by omega), cond_true, w64 (show -9223372036854775808 ≤ a + wordAt s (4 * i) by omega) (show a + wordAt s (4 * i) < 9223372036854775808 by omega)]
      exact ⟨trivial, by omega, by omega⟩) (fun f a ha => by
      have e4 : (4 * ((s.size / 4 : Nat) : Int)) = ((4 * (s.size / 4) : Nat) : Int) := by omega
      simp only [e4, l_spec_l21Words_0, s_spec_l21Words_0, w64 (show -9223372036854775808 ≤ ((4 * (s.size / 4) : Nat) : Int) + 4 by omega) (show ((4 * (s.size / 4) : Nat) : Int) + 4 < 9223372036854775808 by omega), decide_eq_false (show ¬ ((4 * (s.size / 4) : Nat) : Int) + 4 ≤ (s.size : Int) by omega), cond_false]) (s := 0) ⟨by omega, by omega⟩ (f := N) (by omega)
  exact ⟨h1, h2, h3⟩

theorem impl_Word_eq (n : Int) (k : Int → Option R) : g_impl_Word N n k = k (word n) := by
  unfold g_impl_Word
  rw [wu32, w64 (by omega) (by omega)]
  rfl

theorem impl_ywordSum_eq {s : ByteArray} (hs : s.size ≤ 2 ^ 30) (h4 : s.size % 4 = 0) (hN : 2 ^ 40 < N) (k : Int → Option R) : g_impl_ywordSum N s k = k (word (wordSum s)) := by
  unfold g_impl_ywordSum c_impl_ywordSum_0
  obtain ⟨h1, h2, h3⟩ := fold (fun f i a => l_impl_ywordSum_0 N s (fun n3 => g_impl_Word N n3 fun n4 => k n4) f a (4 * i)) (s.size / 4) (fun j a => a + wordAt s (4 * j)) (fun i a => 0 ≤ a ∧ a ≤ 4294967296 * (i : Int)) (fun n3 => g_impl_Word N n3 fun n4 => k n4) (fun f i a hi ha => by
      obtain ⟨b1, b2⟩ := wordAt_bound s (4 * i)
      have e4 : (4 * (i : Int)) = ((4 * i : Nat) : Int) := by omega
      have e5 : IntKind.wrap .i64 (((4 * i : Nat) : Int) + 4) = 4 * ((i + 1 : Nat) : Int) := by rw [w64 (by omega) (by omega)]; omega
      simp only [e4, l_impl_ywordSum_0, s_impl_ywordSum_0, e5, dec_lt (show 4 * i < s.size by omega), impl_ywordAt_eq N (show 4 * i + 4 ≤ s.size by omega) (by omega), cond_true, w64 (show -9223372036854775808 ≤ a + wordAt s (4 * i) by omega) (show a + wordAt s (4 * i) < 9223372036854775808 by omega)]
      exact ⟨trivial, by omega, by omega⟩) (fun f a ha => by
      have e4 : (4 * ((s.size / 4 : Nat) : Int)) = (s.size : Int) := by omega
      simp only [e4, l_impl_ywordSum_0, s_impl_ywordSum_0, dec_nlt, cond_false]) (s := 0) ⟨by omega, by omega⟩ (f := N) (by omega)
  refine h1.trans ?_
  rw [impl_Word_eq]
  rfl


def nameOk (s : ByteArray) : Bool := (s.size == 4) && !((List.range s.size).any fun i => decide (bt s i < 65) || decide (bt s i > 90))

theorem impl_ytableName_eq {s : ByteArray} (hs : s.size ≤ 2 ^ 40) (hN : 2 ^ 40 < N) (k : Bool → Option R) : g_impl_ytableName N s k = k (nameOk s) := by
  unfold g_impl_ytableName c_impl_ytableName_0 nameOk
  have hg : ((s.size : Int) == 4) = (s.size == 4) := by rw [Bool.eq_iff_iff]; simp; omega
  rw [hg, srch (l_impl_ytableName_0 N s s.size (k false) (k (s.size == 4))) s.size (fun i => decide (bt s i < 65) || decide (bt s i > 90)) (k false) (k (s.size == 4)) (fun f i hi => by
      simp only [l_impl_ytableName_0, s_impl_ytableName_0, dec_lt hi, dec_nn, Int.toNat_natCast, wrap_next hi (by omega), Bool.and_true, cond_true, cond_somes, oK_some_eq, Bool.cond_true_left]) (fun f => by
      simp only [l_impl_ytableName_0, s_impl_ytableName_0, dec_nlt, cond_false]) (by omega)]
  cases (List.range s.size).any fun i => decide (bt s i < 65) || decide (bt s i > 90)
  · simp
  · simp

theorem spec_l21Name_eq {s : ByteArray} (hN : 2 ^ 40 < N) (k : Bool → Option R) : g_spec_l21Name N s k = k (nameOk s) := by
  unfold g_spec_l21Name c_spec_l21Name_0 nameOk
  have hg : ((s.size : Int) != 4) = !(s.size == 4) := by rw [Bool.eq_iff_iff]; simp; omega
  rw [hg]
  by_cases h : s.size = 4
  · have e4 : (4 : Int) = ((4 : Nat) : Int) := rfl
    rw [h, srch (l_spec_l21Name_0 N s (k false) (k true)) 4 (fun i => decide (bt s i < 65) || decide (bt s i > 90)) (k false) (k true) (fun f i hi => by
      simp only [l_spec_l21Name_0, s_spec_l21Name_0, h, e4, dec_lt hi, dec_nn, Int.toNat_natCast, wrap_next hi (by omega), Bool.and_true, cond_true, cond_somes, oK_some_eq, Bool.cond_true_left]) (fun f => by
      simp only [l_spec_l21Name_0, s_spec_l21Name_0, e4, dec_nlt, cond_false]) (by omega)]
    cases (List.range 4).any fun i => decide (bt s i < 65) || decide (bt s i > 90) <;> rfl
  · rw [show (s.size == 4) = false by simpa using h]; rfl

def tblOk (x : FirmTable) : Bool := nameOk x.fName && (decide (x.fRev ≥ 0) && decide (x.fRev ≤ 255) && (decide (x.fBody.size ≤ 200) && x.fBody.size % 4 == 0))

theorem tmod4 (n : Nat) : (Int.tmod (n : Int) 4 == 0) = (n % 4 == 0) := by
  rw [Int.tmod_eq_emod_of_nonneg (by omega)]
  rw [Bool.eq_iff_iff]; simp; omega

theorem impl_PutTables_1_eq (x : FirmTable) (hx : x.fName.size ≤ 2 ^ 40) (hN : 2 ^ 40 < N) (k : Bool → Option R) : g_impl_PutTables_1 N x.fName x.fRev x.fBody k = k (!tblOk x) := by
  unfold g_impl_PutTables_1 g_impl_ytableOk
  have hg : decide ((x.fBody.size : Int) ≤ 200) = decide (x.fBody.size ≤ 200) := decide_eq_decide.2 (by omega)
  simp only [impl_ytableName_eq N hx hN, impl_yin_eq, hg, tmod4, cond_somes, oK_some_eq]
  refine congrArg k ?_
  unfold tblOk
  cases nameOk x.fName <;> cases (decide (x.fRev ≥ 0) && decide (x.fRev ≤ 255)) <;> cases decide (x.fBody.size ≤ 200) <;> rfl

theorem indexFunc_table_eq {l : List FirmTable} {b : Bool} (hl : l.length ≤ 2 ^ 40) (hx : ∀ x ∈ l, x.fName.size ≤ 2 ^ 40) (hN : 2 ^ 40 < N) (k : Int → Option R) : g_slices_IndexFunc_FirmTable_Fimpl_PutTables_1_r N b l k = k (fstAt l.length (fun i => atD l i (fun x => !tblOk x) true)) := by
  unfold g_slices_IndexFunc_FirmTable_Fimpl_PutTables_1_r c_slices_IndexFunc_FirmTable_Fimpl_PutTables_1_r_0
  rw [srchI (l_slices_IndexFunc_FirmTable_Fimpl_PutTables_1_r_0 N b l.length l (fun n3 => k n3) (k (-1))) l.length (fun i => atD l i (fun x => !tblOk x) true) (fun n3 => k n3) (k (-1)) (fun f i hi => ?_) (fun f => ?_) (by omega)]
  · unfold fstAt
    split <;> rfl
  · obtain ⟨x, hx1⟩ := nth_some hi
    have hm : x ∈ l := by rw [nth_eq] at hx1; exact List.mem_of_getElem? hx1
    simp only [l_slices_IndexFunc_FirmTable_Fimpl_PutTables_1_r_0, s_slices_IndexFunc_FirmTable_Fimpl_PutTables_1_r_0, dec_lt hi, dec_nn, Int.toNat_natCast, elemK_some hx1, wrap_next hi (by omega), Bool.and_true, cond_true, atD_some hx1, impl_PutTables_1_eq N x (hx x hm) hN]
  · simp only [l_slices_IndexFunc_FirmTable_Fimpl_PutTables_1_r_0, s_slices_IndexFunc_FirmTable_Fimpl_PutTables_1_r_0, dec_nlt, cond_false]

/-- A table as it stands in memory. -/
def tblText (x : FirmTable) : ByteArray :=
  (x.fName ++ putWord ((x.fBody.size + 8) * 65536 + x.fRev * 256 + (-(byteSum (x.fName ++ putWord ((x.fBody.size + 8) * 65536 + x.fRev * 256) ++ x.fBody))) % 256)) ++ x.fBody

theorem tblText_size (x : FirmTable) : (tblText x).size = x.fName.size + 4 + x.fBody.size := by
  unfold tblText
  rw [ByteArray.size_append, ByteArray.size_append, putWord_size]

theorem spec_l21Table_eq (x : FirmTable) (h1 : x.fName.size ≤ 2 ^ 30) (h2 : x.fBody.size ≤ 2 ^ 30) (hN : 2 ^ 40 < N) (k : ByteArray → Option R) : g_spec_l21Table N x.fName x.fRev x.fBody k = k (cond (tblOk x) (tblText x) ⟨[].toArray⟩) := by
  unfold g_spec_l21Table
  have hg : decide ((x.fBody.size : Int) > 200) = !decide (x.fBody.size ≤ 200) := by rw [Bool.eq_iff_iff]; simp; omega
  have hb : (Int.tmod (x.fBody.size : Int) 4 != 0) = !(x.fBody.size % 4 == 0) := by rw [← tmod4]; rfl
  have hq : (!nameOk x.fName || (decide (x.fRev < 0) || (decide (x.fRev > 255) || (!decide (x.fBody.size ≤ 200) || !(x.fBody.size % 4 == 0))))) = !tblOk x := by
    unfold tblOk
    have e1 : decide (x.fRev < 0) = !decide (x.fRev ≥ 0) := by rw [Bool.eq_iff_iff]; simp
    have e2 : decide (x.fRev > 255) = !decide (x.fRev ≤ 255) := by rw [Bool.eq_iff_iff]; simp
    rw [e1, e2]
    cases nameOk x.fName <;> cases decide (x.fRev ≥ 0) <;> cases decide (x.fRev ≤ 255) <;> cases decide (x.fBody.size ≤ 200) <;> rfl
  simp only [spec_l21Name_eq N hN, hg, hb, cond_somes, oK_some_eq, Bool.cond_true_left, hq]
  by_cases h : tblOk x = true
  · rw [h]
    simp only [Bool.not_true, cond_false, cond_true]
    have hr : (0 ≤ x.fRev ∧ x.fRev ≤ 255) ∧ x.fBody.size ≤ 200 := by
      unfold tblOk at h
      simp only [Bool.and_eq_true, decide_eq_true_eq] at h
      exact ⟨⟨h.2.1.1, h.2.1.2⟩, h.2.2.1⟩
    have ew : IntKind.wrap .i64 (IntKind.wrap .i64 (IntKind.wrap .i64 ((x.fBody.size : Int) + 8) * 65536) + IntKind.wrap .i64 (x.fRev * 256)) = (x.fBody.size + 8) * 65536 + x.fRev * 256 := by
      rw [w64 (n := (x.fBody.size : Int) + 8) (by omega) (by omega), w64 (n := ((x.fBody.size : Int) + 8) * 65536) (by omega) (by omega), w64 (n := x.fRev * 256) (by omega) (by omega), w64 (by omega) (by omega)]
    have hsz : ∀ w, ((x.fName ++ putWord w) ++ x.fBody).size = x.fName.size + 4 + x.fBody.size := fun w => by rw [ByteArray.size_append, ByteArray.size_append, putWord_size]
    have hsz2 : ∀ w, (x.fName ++ putWord w).size = x.fName.size + 4 := fun w => by rw [ByteArray.size_append, putWord_size]
    obtain ⟨hb1, hb2, hb3⟩ := spec_l21Bytes_eq N (s := x.fName ++ putWord ((x.fBody.size + 8) * 65536 + x.fRev * 256) ++ x.fBody) (by rw [hsz]; omega) hN (fun _ => (none : Option R))
    rw [hsz] at hb3
    simp only [ew, spec_PutWord_eq, putWord_size, hsz2, ble_t (show x.fName.size + 4 ≤ 9223372036854775807 by omega), ble_t (show x.fName.size + 4 + x.fBody.size ≤ 9223372036854775807 by omega), cond_true,
      fun k => (spec_l21Bytes_eq N (s := x.fName ++ putWord ((x.fBody.size + 8) * 65536 + x.fRev * 256) ++ x.fBody) (by rw [hsz]; omega) hN (R := R) k).1, spec_l01Mod_eq N (show (0 : Int) < 256 by omega) (by omega)]
    have en : IntKind.wrap .i64 (0 - byteSum (x.fName ++ putWord ((x.fBody.size + 8) * 65536 + x.fRev * 256) ++ x.fBody)) = -byteSum (x.fName ++ putWord ((x.fBody.size + 8) * 65536 + x.fRev * 256) ++ x.fBody) := by
      rw [w64 (by omega) (by omega)]; omega
    rw [en, w64 (by omega) (by omega)]
    rfl
  · rw [Bool.not_eq_true] at h
    rw [h]; rfl


def memOk (s : ByteArray) : Bool := decide ((s.size : Int) ≥ 256) && (decide ((s.size : Int) ≤ 65536) && (Int.tmod (s.size : Int) 256 == 0))

theorem impl_ymemOk_eq (s : ByteArray) (k : Bool → Option R) : g_impl_ymemOk N s k = k (memOk s) := by
  unfold g_impl_ymemOk memOk
  cases decide ((s.size : Int) ≥ 256) <;> cases decide ((s.size : Int) ≤ 65536) <;> rfl

theorem spec_MemFault_eq (s : ByteArray) (k : Int → Option R) : g_spec_MemFault N s k = k (cond (memOk s) 0 1) := by
  have e : ((s.size : Int) == 0 || (Int.tmod (s.size : Int) 256 != 0 || decide ((s.size : Int) > 65536))) = !memOk s := by
    unfold memOk
    rw [Int.tmod_eq_emod_of_nonneg (by omega), Bool.eq_iff_iff]
    have h0 : (0 : Int) ≤ (s.size : Int) := by omega
    generalize (s.size : Int) = m at h0 ⊢
    simp
    omega
  unfold g_spec_MemFault
  simp only [cond_somes, oK_some_eq, Bool.cond_true_left, e]
  cases memOk s <;> rfl

def fitsAt (m n t : Int) : Bool := decide (n ≥ 0) && (decide (t ≥ 0) && (decide (n ≤ m) && decide (t ≤ IntKind.wrap .i64 (m - n))))

theorem impl_yfits_eq (m n t : Int) (k : Bool → Option R) : g_impl_yfits N m n t k = k (fitsAt m n t) := by
  unfold g_impl_yfits fitsAt
  cases decide (n ≥ 0) <;> cases decide (t ≥ 0) <;> cases decide (n ≤ m) <;> rfl

theorem spec_l10In_eq (s : ByteArray) (n t : Int) (k : Bool → Option R) : g_spec_l10In N s n t k = k (fitsAt s.size n t) := by
  unfold g_spec_l10In fitsAt
  cases decide (n ≥ 0) <;> cases decide (t ≥ 0) <;> cases decide (n ≤ (s.size : Int)) <;> rfl

def splice (s : ByteArray) (a : Nat) (t : ByteArray) : ByteArray := (s.extract 0 a ++ t) ++ s.extract (a + t.size) s.size

theorem fits_nat {m : Nat} {n t : Int} (hm : m ≤ 2 ^ 60) (h : fitsAt m n t = true) : 0 ≤ n ∧ 0 ≤ t ∧ n + t ≤ m := by
  unfold fitsAt at h
  simp only [Bool.and_eq_true, decide_eq_true_eq] at h
  obtain ⟨h1, h2, h3, h4⟩ := h
  rw [w64 (by omega) (by omega)] at h4
  omega

theorem impl_ysplice_eq {s t : ByteArray} {n : Int} (hs : s.size ≤ 2 ^ 60) (h : fitsAt s.size n t.size = true) (k : ByteArray → Option R) : g_impl_ysplice N s n t k = k (splice s n.toNat t) := by
  obtain ⟨h1, h2, h3⟩ := fits_nat hs h
  obtain ⟨a, rfl⟩ := Int.eq_ofNat_of_zero_le h1
  unfold g_impl_ysplice splice
  have e1 : IntKind.wrap .i64 ((a : Int) + (t.size : Int)) = ((a + t.size : Nat) : Int) := by rw [w64 (by omega) (by omega)]; omega
  simp only [e1, dec_nn, Int.toNat_natCast, decide_eq_true (show ((a : Int) ≤ (s.size : Int)) by omega), decide_eq_true (show (((a + t.size : Nat) : Int) ≤ (s.size : Int)) by omega), Bool.and_true, cond_true, Int.le_refl, decide_true]
  rw [ble_t (by rw [ByteArray.size_extract]; omega), cond_true, ble_t (by rw [ByteArray.size_append, ByteArray.size_extract, ByteArray.size_extract]; omega), cond_true]


theorem word_neg (n : Int) : word (0 - word n) = word (-n) := by unfold word; omega

theorem putWord_congr {a b : Int} (h : word a = word b) : putWord a = putWord b := by unfold putWord; rw [h]

def tblStep (base : Int) (st : ByteArray × ByteArray) (x : FirmTable) : ByteArray × ByteArray := (st.1 ++ putWord (IntKind.wrap .i64 (base + (st.2.size : Int))), st.2 ++ tblText x)

def tblBase (n : Int) (m : Nat) : Int := IntKind.wrap .i64 (IntKind.wrap .i64 (n + 12) + IntKind.wrap .i64 (4 * (m : Int)))

def tblRows (n : Int) (l : List FirmTable) : ByteArray × ByteArray := l.foldl (tblStep (tblBase n l.length)) (⟨[(70 : UInt8), (73 : UInt8), (82 : UInt8), (77 : UInt8)].toArray⟩ ++ putWord l.length, ⟨[].toArray⟩)

theorem tblOk_facts {x : FirmTable} (h : tblOk x = true) : x.fName.size = 4 ∧ 0 ≤ x.fRev ∧ x.fRev ≤ 255 ∧ x.fBody.size ≤ 200 ∧ x.fBody.size % 4 = 0 := by
  unfold tblOk nameOk at h
  simp only [Bool.and_eq_true, decide_eq_true_eq, beq_iff_eq] at h
  omega

theorem tblText_size_ok {x : FirmTable} (h : tblOk x = true) : (tblText x).size = 8 + x.fBody.size := by
  rw [tblText_size, (tblOk_facts h).1]

theorem impl_PutTables_loop {s : ByteArray} {n : Int} {l : List FirmTable} {b : Bool} (hl : l.length ≤ 10) (hx : ∀ x ∈ l, tblOk x = true) (hN : 2 ^ 40 < N) (k : ByteArray → ByteArray → Option R) :
    c_impl_PutTables_w_0 N s n (tblBase n l.length) b l.length l (⟨[(70 : UInt8), (73 : UInt8), (82 : UInt8), (77 : UInt8)].toArray⟩ ++ putWord l.length) ⟨[].toArray⟩ 0 k = k (tblRows n l).1 (tblRows n l).2 ∧ (tblRows n l).1.size = 8 + 4 * l.length ∧ (tblRows n l).2.size ≤ 208 * l.length := by
  unfold c_impl_PutTables_w_0
  have h1 := fold (fun f i (st : ByteArray × ByteArray) => l_impl_PutTables_w_0 N s n (tblBase n l.length) b l.length l k f st.1 st.2 i) l.length (fun i st => atD l i (fun x => tblStep (tblBase n l.length) st x) st)
    (fun i st => st.1.size = 8 + 4 * i ∧ st.2.size ≤ 208 * i) (fun st => k st.1 st.2) (fun f i st hi hs => by
      obtain ⟨s3, s4⟩ := st
      obtain ⟨hs1, hs2⟩ := hs
      dsimp only at hs1 hs2
      obtain ⟨x, hx1⟩ := nth_some hi
      have hm : x ∈ l := by rw [nth_eq] at hx1; exact List.mem_of_getElem? hx1
      have hok := hx x hm
      obtain ⟨q1, q2, q3, q4, q5⟩ := tblOk_facts hok
      have e1 : IntKind.wrap .i64 (((BitVec.ofInt 64 (IntKind.wrap .i64 (IntKind.wrap .i64 (8 + (x.fBody.size : Int)) * 65536)) ||| BitVec.ofInt 64 (IntKind.wrap .i64 (x.fRev * 256))).toNat : Nat) : Int) = ((x.fBody.size : Int) + 8) * 65536 + x.fRev * 256 := by
        rw [w64 (n := 8 + (x.fBody.size : Int)) (by omega) (by omega), w64 (n := (8 + (x.fBody.size : Int)) * 65536) (by omega) (by omega), w64 (n := x.fRev * 256) (by omega) (by omega),
          or_add (a := (8 + (x.fBody.size : Int)) * 65536) (b := x.fRev * 256) 16 (by omega) (by omega) (by omega) (by omega) (by omega)]
        omega
      have e3 : ∀ bs : Int, IntKind.wrap .i64 (((BitVec.ofInt 64 (((x.fBody.size : Int) + 8) * 65536 + x.fRev * 256) ||| BitVec.ofInt 64 (IntKind.wrap .i64 (((BitVec.ofInt 64 (IntKind.wrap .i64 (256 - bs % 256)) &&& BitVec.ofInt 64 255).toNat : Nat) : Int))).toNat : Nat) : Int) = ((x.fBody.size : Int) + 8) * 65536 + x.fRev * 256 + (-bs) % 256 := by
        intro bs
        rw [and255, w64 (n := 256 - bs % 256) (by omega) (by omega), or_add (a := ((x.fBody.size : Int) + 8) * 65536 + x.fRev * 256) (b := (256 - bs % 256) % 256) 8 (by omega) (by omega) (by omega) (by omega) (by omega)]
        omega
      have hsz : ∀ w, ((x.fName ++ putWord w) ++ x.fBody).size = 8 + x.fBody.size := fun w => by rw [ByteArray.size_append, ByteArray.size_append, putWord_size]; omega
      have hsz2 : ∀ w, (x.fName ++ putWord w).size = 8 := fun w => by rw [ByteArray.size_append, putWord_size]; omega
      simp only [l_impl_PutTables_w_0, s_impl_PutTables_w_0, dec_lt hi, dec_nn, Int.toNat_natCast, elemK_some hx1, wrap_next hi (by omega), Bool.and_true, cond_true, atD_some hx1, impl_PutWord_eq, putWord_size, ble_t (show s3.size + 4 ≤ 9223372036854775807 by omega), e1, ble_t (show x.fName.size + 4 ≤ 9223372036854775807 by omega), hsz2, ble_t (show 8 + x.fBody.size ≤ 9223372036854775807 by omega),
        impl_ybyteSum_eq N (show ((x.fName ++ putWord (((x.fBody.size : Int) + 8) * 65536 + x.fRev * 256)) ++ x.fBody).size ≤ 2 ^ 40 by rw [hsz]; omega) hN, e3, hsz, ble_t (show s4.size + (8 + x.fBody.size) ≤ 9223372036854775807 by omega)]
      refine ⟨rfl, ?_, ?_⟩
      · show (s3 ++ putWord _).size = _
        rw [ByteArray.size_append, putWord_size]; omega
      · show (s4 ++ tblText x).size ≤ _
        rw [ByteArray.size_append, tblText_size_ok hok]; omega) (fun f st hs => by
      simp only [l_impl_PutTables_w_0, s_impl_PutTables_w_0, dec_nlt, cond_false]) (s := (⟨[(70 : UInt8), (73 : UInt8), (82 : UInt8), (77 : UInt8)].toArray⟩ ++ putWord l.length, ⟨[].toArray⟩)) ⟨by rw [ByteArray.size_append, putWord_size]; rfl, by show (0 : Nat) ≤ _; omega⟩ (f := N) (by omega)
  rw [foldl_atD l (tblStep (tblBase n l.length))] at h1
  exact h1

def putTables (s : ByteArray) (n : Int) (l : List FirmTable) : ByteArray :=
  cond (memOk s && (!decide (n < 0) && (!(Int.tmod n 4 != 0) && (!decide ((l.length : Int) > 10) && !(l.any fun x => !tblOk x)))))
    (cond (fitsAt s.size n (((tblRows n l).1 ++ putWord (-(wordSum (tblRows n l).1))) ++ (tblRows n l).2).size) (splice s n.toNat (((tblRows n l).1 ++ putWord (-(wordSum (tblRows n l).1))) ++ (tblRows n l).2)) ⟨[].toArray⟩) ⟨[].toArray⟩

theorem containsFunc_table_eq {l : List FirmTable} {b : Bool} (hl : l.length ≤ 2 ^ 40) (hx : ∀ x ∈ l, x.fName.size ≤ 2 ^ 40) (hN : 2 ^ 40 < N) (k : Bool → Option R) : g_slices_ContainsFunc_FirmTable_Fimpl_PutTables_1_r N b l k = k (l.any fun x => !tblOk x) := by
  unfold g_slices_ContainsFunc_FirmTable_Fimpl_PutTables_1_r
  rw [indexFunc_table_eq N hl hx hN, fstAt_nonneg, any_atD]

theorem impl_PutTables_eq {s : ByteArray} {n : Int} {l : List FirmTable} {b : Bool} (hs : s.size ≤ 2 ^ 30) (hl : l.length ≤ 2 ^ 40) (hx : ∀ x ∈ l, x.fName.size ≤ 2 ^ 30) (hN : 2 ^ 40 < N) (k : ByteArray → Option R) : g_impl_PutTables_w N s n b l k = k (putTables s n l) := by
  unfold g_impl_PutTables_w putTables
  simp only [impl_ymemOk_eq, containsFunc_table_eq N hl (fun x hm => by have := hx x hm; omega) hN, cond_somes, oK_some_eq, Bool.cond_true_left]
  have hj : (!memOk s || (decide (n < 0) || (n.tmod 4 != 0 || (decide ((l.length : Int) > 10) || l.any fun x => !tblOk x)))) = !(memOk s && (!decide (n < 0) && (!(n.tmod 4 != 0) && (!decide ((l.length : Int) > 10) && !(l.any fun x => !tblOk x))))) := by
    cases memOk s <;> cases decide (n < 0) <;> cases (n.tmod 4 != 0) <;> cases decide ((l.length : Int) > 10) <;> cases (l.any fun x => !tblOk x) <;> rfl
  rw [hj]
  by_cases hg : (memOk s && (!decide (n < 0) && (!(n.tmod 4 != 0) && (!decide ((l.length : Int) > 10) && !(l.any fun x => !tblOk x))))) = true
  · rw [hg]
    simp only [Bool.and_eq_true, Bool.not_eq_true', decide_eq_false_iff_not] at hg
    obtain ⟨_, _, _, h10, hany⟩ := hg
    have hall : ∀ x ∈ l, tblOk x = true := by
      intro x hm
      have := List.any_eq_false.1 hany x hm
      simpa using this
    obtain ⟨a1, a2, a3⟩ := impl_PutTables_loop N (s := s) (n := n) (b := b) (l := l) (by omega) hall hN (fun s8 s9 =>
      (g_impl_ywordSum N s8 fun n6 =>
      (g_impl_PutWord N (IntKind.wrap .i64 ((0 : Int) - n6)) fun s10 =>
      (cond (Nat.ble ((ByteArray.size s8) + (ByteArray.size s10)) 9223372036854775807)
      (cond (Nat.ble ((ByteArray.size (s8 ++ s10)) + (ByteArray.size s9)) 9223372036854775807)
        (g_impl_yfits N (((ByteArray.size s) : Nat) : Int) n (((ByteArray.size ((s8 ++ s10) ++ s9)) : Nat) : Int) fun b4 =>
          (cond (!b4)
          (k (ByteArray.mk (List.toArray [])))
          (g_impl_ysplice N s n ((s8 ++ s10) ++ s9) fun s11 =>
            (k s11))))
        none)
      none))))
    rw [Bool.not_true, cond_false, cond_true, impl_PutWord_eq, putWord_size, show Nat.ble (4 + 4) 9223372036854775807 = true from rfl, cond_true]
    refine a1.trans ?_
    generalize tblRows n l = st at a2 a3 ⊢
    obtain ⟨hd, bd⟩ := st
    dsimp only at a2 a3 ⊢
    obtain ⟨_, w1, w2⟩ := spec_l21Words_eq N (s := hd) (by omega) hN (fun _ => (none : Option R))
    have ew : putWord (IntKind.wrap .i64 (0 - word (wordSum hd))) = putWord (-(wordSum hd)) := by
      apply putWord_congr
      rw [w64 (by unfold word; omega) (by unfold word; omega), word_neg]
    rw [impl_ywordSum_eq N (by omega) (by omega) hN, impl_PutWord_eq, ew, putWord_size, ble_t (by omega), cond_true, ble_t (by rw [ByteArray.size_append, putWord_size]; omega), cond_true, impl_yfits_eq]
    cases hf : fitsAt s.size n ((hd ++ putWord (-(wordSum hd))) ++ bd).size with
    | false => rfl
    | true =>
      simp only [Bool.not_true, cond_false, cond_true]
      rw [impl_ysplice_eq N (by omega) hf]
  · rw [Bool.not_eq_true] at hg
    rw [hg]; rfl

theorem spec_PutTables_loop {s : ByteArray} {n : Int} {l : List FirmTable} {b : Bool} (hl : l.length ≤ 10) (hx : ∀ x ∈ l, x.fName.size ≤ 2 ^ 30 ∧ x.fBody.size ≤ 2 ^ 30) (hN : 2 ^ 40 < N) (k0 : Option R) (k : ByteArray → ByteArray → Option R) :
    c_spec_PutTables_w_0 N s n b l (⟨[(70 : UInt8), (73 : UInt8), (82 : UInt8), (77 : UInt8)].toArray⟩ ++ putWord l.length) ⟨[].toArray⟩ 0 (fun _ _ => k0) k = cond (l.any fun x => !tblOk x) k0 (k (tblRows n l).1 (tblRows n l).2) := by
  unfold c_spec_PutTables_w_0
  have h1 := foldE (fun f i (st : ByteArray × ByteArray) => l_spec_PutTables_w_0 N s n b l (fun _ _ => k0) k f st.1 st.2 i) l.length (fun i => atD l i (fun x => !tblOk x) true) (fun i st => atD l i (fun x => tblStep (tblBase n l.length) st x) st)
    (fun i st => st.1.size = 8 + 4 * i ∧ st.2.size ≤ 208 * i) (fun st => k st.1 st.2) k0 (fun f i st hi hs => by
      obtain ⟨s3, s4⟩ := st
      obtain ⟨hs1, hs2⟩ := hs
      dsimp only at hs1 hs2
      obtain ⟨x, hx1⟩ := nth_some hi
      have hm : x ∈ l := by rw [nth_eq] at hx1; exact List.mem_of_getElem? hx1
      obtain ⟨q1, q2⟩ := hx x hm
      simp only [l_spec_PutTables_w_0, s_spec_PutTables_w_0, dec_lt hi, dec_nn, Int.toNat_natCast, elemK_some hx1, wrap_next hi (by omega), Bool.and_true, cond_true, atD_some hx1, spec_PutWord_eq, putWord_size, ble_t (show s3.size + 4 ≤ 9223372036854775807 by omega), spec_l21Table_eq N x q1 q2 hN]
      cases hok : tblOk x with
      | false => exact ⟨rfl, fun h => by cases h⟩
      | true =>
        have hz := tblText_size_ok hok
        obtain ⟨_, _, _, q4, _⟩ := tblOk_facts hok
        have hne : decide (tblText x = ⟨[].toArray⟩) = false := decide_eq_false (fun h => by
          have := congrArg ByteArray.size h
          rw [hz] at this
          have h0 : (⟨[].toArray⟩ : ByteArray).size = 0 := rfl
          omega)
        simp only [cond_true, hne, cond_false, ble_t (show s4.size + (tblText x).size ≤ 9223372036854775807 by omega), Bool.not_true]
        refine ⟨rfl, fun _ => ⟨?_, ?_⟩⟩
        · show (s3 ++ putWord _).size = _
          rw [ByteArray.size_append, putWord_size]; omega
        · show (s4 ++ tblText x).size ≤ _
          rw [ByteArray.size_append, hz]; omega) (fun f st hs => by
      simp only [l_spec_PutTables_w_0, s_spec_PutTables_w_0, dec_nlt, cond_false]) (s := (⟨[(70 : UInt8), (73 : UInt8), (82 : UInt8), (77 : UInt8)].toArray⟩ ++ putWord l.length, ⟨[].toArray⟩)) ⟨by rw [ByteArray.size_append, putWord_size]; rfl, by show (0 : Nat) ≤ _; omega⟩ (f := N) (by omega)
  rw [foldl_atD l (tblStep (tblBase n l.length)), any_atD] at h1
  exact h1.1


def mixStep (x b : Int) : Int := (x * 65599 + b + 1) % 2147483629

def mixGo (s : ByteArray) (x : Int) : Int := (List.range s.size).foldl (fun x i => mixStep x (bt s i)) x

def mix (s : ByteArray) (n : Int) : Int := (mixGo s (n % 2147483629 + 1) * 40503 + 77) % 2147483629

theorem mix_round {x b : Int} (hx0 : 0 ≤ x) (hx1 : x ≤ 2147483629) (hb0 : 0 ≤ b) (hb1 : b ≤ 255) :
    Int.tmod (IntKind.wrap .i64 (IntKind.wrap .i64 (IntKind.wrap .i64 (x * 65599) + IntKind.wrap .i64 b) + 1)) 2147483629 = mixStep x b := by
  rw [w64 (n := x * 65599) (by omega) (by omega), w64 (n := b) (by omega) (by omega), w64 (n := x * 65599 + b) (by omega) (by omega), w64 (by omega) (by omega), tmod_nn (by omega)]
  rfl

theorem impl_ymix_eq {s : ByteArray} {n : Int} (hs : s.size ≤ 2 ^ 40) (hN : 2 ^ 40 < N) (k : Int → Option R) : g_impl_ymix N s n k = k (mix s n) := by
  unfold g_impl_ymix
  rw [impl_ymod_eq N (by omega) (by omega)]
  have hm : 0 ≤ n % 2147483629 ∧ n % 2147483629 < 2147483629 := by omega
  rw [w64 (n := n % 2147483629 + 1) (by omega) (by omega)]
  unfold c_impl_ymix_0
  obtain ⟨h1, h2, h3⟩ := fold (fun f i x => l_impl_ymix_0 N s s.size (fun n5 => k (Int.tmod (IntKind.wrap .i64 (IntKind.wrap .i64 (n5 * 40503) + 77)) 2147483629)) f x i) s.size (fun i x => mixStep x (bt s i)) (fun _ x => 0 ≤ x ∧ x ≤ 2147483629) (fun n5 => k (Int.tmod (IntKind.wrap .i64 (IntKind.wrap .i64 (n5 * 40503) + 77)) 2147483629)) (fun f i x hi hx => by
      obtain ⟨b1, b2⟩ := bt_bound s i
      simp only [l_impl_ymix_0, s_impl_ymix_0, dec_lt hi, dec_nn, Int.toNat_natCast, wrap_next hi (by omega), Bool.and_true, cond_true, mix_round hx.1 hx.2 b1 b2]
      exact ⟨trivial, by unfold mixStep; omega⟩) (fun f x hx => by
      simp only [l_impl_ymix_0, s_impl_ymix_0, dec_nlt, cond_false]) (s := n % 2147483629 + 1) ⟨by omega, by omega⟩ (f := N) (by omega)
  refine h1.trans ?_
  rw [w64 (n := _ * 40503) (by omega) (by omega), w64 (by omega) (by omega), tmod_nn (by omega)]
  rfl

theorem spec_Mix_eq {s : ByteArray} {n : Int} (hN : 2 ^ 40 < N) (k : Int → Option R) : g_spec_Mix N s n k = k (cond (decide ((s.size : Int) > 65536)) 0 (mix s n)) := by
  unfold g_spec_Mix
  by_cases hs : (s.size : Int) > 65536
  · rw [decide_eq_true hs]; rfl
  rw [decide_eq_false hs, cond_false, cond_false, spec_l01Mod_eq N (by omega) (by omega)]
  have hm : 0 ≤ n % 2147483629 ∧ n % 2147483629 < 2147483629 := by omega
  rw [w64 (n := n % 2147483629 + 1) (by omega) (by omega)]
  unfold c_spec_Mix_0
  obtain ⟨h1, h2, h3⟩ := fold (fun f i x => l_spec_Mix_0 N s (fun n5 => k (Int.tmod (IntKind.wrap .i64 (IntKind.wrap .i64 (n5 * 40503) + 77)) 2147483629)) f x i) s.size (fun i x => mixStep x (bt s i)) (fun _ x => 0 ≤ x ∧ x ≤ 2147483629) (fun n5 => k (Int.tmod (IntKind.wrap .i64 (IntKind.wrap .i64 (n5 * 40503) + 77)) 2147483629)) (fun f i x hi hx => by
      obtain ⟨b1, b2⟩ := bt_bound s i
      simp only [l_spec_Mix_0, s_spec_Mix_0, dec_lt hi, dec_nn, Int.toNat_natCast, wrap_next hi (by omega), Bool.and_true, cond_true, mix_round hx.1 hx.2 b1 b2]
      exact ⟨trivial, by unfold mixStep; omega⟩) (fun f x hx => by
      simp only [l_spec_Mix_0, s_spec_Mix_0, dec_nlt, cond_false]) (s := n % 2147483629 + 1) ⟨by omega, by omega⟩ (f := N) (by omega)
  refine h1.trans ?_
  rw [w64 (n := _ * 40503) (by omega) (by omega), w64 (by omega) (by omega), tmod_nn (by omega)]
  rfl

theorem nth_ofBytes {s : ByteArray} {i : Nat} (h : i < s.size) : nth (ofBytes s) i = some (bt s i) := by
  have h' : i < s.data.toList.length := by rw [Array.length_toList]; exact h
  unfold ofBytes bt
  rw [nth_eq, List.getElem?_map, List.getElem?_eq_getElem h', List.getD_eq_getElem?_getD, List.getElem?_eq_getElem h']
  rfl

theorem ofBytes_toBytes {l : List Int} (h : ∀ x ∈ l, 0 ≤ x ∧ x < 256) : ofBytes (toBytes l) = l := by
  unfold ofBytes toBytes
  simp only [List.map_map]
  rw [List.map_congr_left (g := id) (fun x hx => ?_), List.map_id]
  have := h x hx
  simp
  omega

theorem ofBytes_putWord (v : Int) : ofBytes (putWord v) = [v % 256, v / 256 % 256, v / 65536 % 256, v / 16777216 % 256] := by
  unfold putWord
  rw [ofBytes_toBytes (by intro x hx; simp only [List.mem_cons, List.not_mem_nil, or_false] at hx; omega)]
  unfold word
  simp only [List.cons.injEq, and_true]
  omega

def isW (x : Int) : Bool := decide (x ≥ 0) && decide (x < 4294967296)

theorem spec_l04Words_r_eq {l : List Int} {b : Bool} (hl : l.length ≤ 2 ^ 40) (hN : 2 ^ 40 < N) (k : Bool → Option R) : g_spec_l04Words_r N b (l.length : Int) l k = k (!(l.any fun x => !isW x)) := by
  unfold g_spec_l04Words_r
  rw [bne_self_eq_false, cond_false]
  unfold c_spec_l04Words_r_0
  rw [srch (l_spec_l04Words_r_0 N b l.length l (k false) (k true)) l.length (fun i => atD l i (fun x => !isW x) true) (k false) (k true) (fun f i hi => ?_) (fun f => ?_) (by omega), any_atD]
  · cases l.any (fun x => !isW x) <;> rfl
  · obtain ⟨x, hx⟩ := nth_some hi
    simp only [l_spec_l04Words_r_0, s_spec_l04Words_r_0, dec_lt hi, dec_nn, Int.toNat_natCast, elemK_some hx, wrap_next hi (by omega), Bool.and_true, cond_true, atD_some hx, spec_l01IsWord_eq]
    rfl
  · simp only [l_spec_l04Words_r_0, s_spec_l04Words_r_0, dec_nlt, cond_false]

theorem laws_eqInt64S_ww_eq {l m : List Int} {b b1 : Bool} (hl : l.length ≤ 2 ^ 40) (hN : 2 ^ 40 < N) (k : Bool → Option R) : g_laws_eqInt64S_ww N b b1 l m k = k (decide (l = m)) := by
  unfold g_laws_eqInt64S_ww
  by_cases h : l.length = m.length
  · rw [show ((l.length : Int) != (m.length : Int)) = false by simp [h]]
    unfold c_laws_eqInt64S_ww_0
    refine (eql (l_laws_eqInt64S_ww_0 N b b1 l m (k false) (k true)) l m h (k false) (k true) (fun f i x y hi hx hy => ?_) (fun f => ?_) (by omega)).trans ?_
    · simp only [l_laws_eqInt64S_ww_0, s_laws_eqInt64S_ww_0, dec_lt hi, dec_nn, Int.toNat_natCast, elemK_some hx, elemK_some hy, dec_lt (show i < m.length by omega), wrap_next hi (by omega), Bool.and_true, cond_true, bne_dec]
    · simp only [l_laws_eqInt64S_ww_0, s_laws_eqInt64S_ww_0, dec_nlt, cond_false]
    · cases decide (l = m) <;> rfl
  · rw [show ((l.length : Int) != (m.length : Int)) = true by simp; omega]
    rw [decide_eq_false (fun e => h (by rw [e]))]
    rfl

theorem bt_extract {s : ByteArray} {a b i : Nat} (h : a + i < b) : bt (s.extract a b) i = bt s (a + i) := by
  unfold bt
  rw [ByteArray.data_extract, Array.toList_extract, List.extract_eq_drop_take, List.getD_eq_getElem?_getD, List.getD_eq_getElem?_getD, List.getElem?_take_of_lt (by omega), List.getElem?_drop]

theorem bt_append_left {s t : ByteArray} {i : Nat} (h : i < s.size) : bt (s ++ t) i = bt s i := by
  have h' : i < s.data.toList.length := by rw [Array.length_toList]; exact h
  unfold bt
  rw [ByteArray.data_append, Array.toList_append, List.getD_eq_getElem?_getD, List.getD_eq_getElem?_getD, List.getElem?_append_left h']

theorem bt_append_right {s t : ByteArray} (i : Nat) : bt (s ++ t) (s.size + i) = bt t i := by
  have h' : s.size = s.data.toList.length := by rw [Array.length_toList]; rfl
  unfold bt
  rw [ByteArray.data_append, Array.toList_append, List.getD_eq_getElem?_getD, List.getD_eq_getElem?_getD, List.getElem?_append_right (by omega), h', Nat.add_sub_cancel_left]

theorem bytes_ext {s t : ByteArray} (h : s.size = t.size) (hb : ∀ i, i < s.size → bt s i = bt t i) : s = t := by
  have hs : s.size = s.data.toList.length := by rw [Array.length_toList]; rfl
  have ht : t.size = t.data.toList.length := by rw [Array.length_toList]; rfl
  have : s.data.toList = t.data.toList := by
    apply List.ext_getElem (by omega)
    intro i h1 h2
    have := hb i (by omega)
    unfold bt at this
    rw [List.getD_eq_getElem?_getD, List.getD_eq_getElem?_getD, List.getElem?_eq_getElem h1, List.getElem?_eq_getElem h2] at this
    simp only [Option.getD_some] at this
    exact UInt8.toNat_inj.1 (by omega)
  apply ByteArray.ext
  exact Array.ext' this

theorem extract_append_left {s t : ByteArray} {n : Nat} (h : n = s.size) : (s ++ t).extract 0 n = s := by
  subst h
  refine bytes_ext (by rw [ByteArray.size_extract, ByteArray.size_append]; omega) fun i hi => ?_
  rw [ByteArray.size_extract, ByteArray.size_append] at hi
  rw [bt_extract (by omega), Nat.zero_add, bt_append_left (by omega)]

theorem ybig_eq {t : ByteArray} (hN : 2 ^ 40 < N) (k : Bool → Option R) : g_impl_ybig_w N false [t] k = k (decide ((t.size : Int) > 65536)) := by
  obtain ⟨M, rfl⟩ : ∃ M, N = M + 2 := ⟨N - 2, by omega⟩
  unfold g_impl_ybig_w c_impl_ybig_w_0
  have hx : nth [t] 0 = some t := rfl
  show cond (decide ((t.size : Int) > 65536)) (k true) (k false) = _
  cases decide ((t.size : Int) > 65536) <;> rfl

theorem foldl_cong {S T : Type} {f g : S → T → S} : ∀ (l : List T) (s : S), (∀ s x, x ∈ l → f s x = g s x) → l.foldl f s = l.foldl g s
  | [], _, _ => rfl
  | x :: l, s, h => by
    rw [List.foldl_cons, List.foldl_cons, h s x (List.mem_cons_self ..)]
    exact foldl_cong l _ fun s y hy => h s y (List.mem_cons_of_mem _ hy)

def zeros (n : Nat) : ByteArray := toBytes (List.replicate n 0)

theorem zeros_size (n : Nat) : (zeros n).size = n := by unfold zeros; rw [toBytes_size, List.length_replicate]

theorem repeatL_zero : ∀ n : Nat, Lib.repeatL [(0 : UInt8)] n = List.replicate n 0
  | 0 => rfl
  | n + 1 => by
    have := repeatL_zero n
    rw [List.replicate_succ, ← this]; rfl

theorem repB_zero {n : Int} : repB ⟨[(0 : UInt8)].toArray⟩ n = zeros n.toNat := by
  unfold repB zeros toBytes
  have : (⟨[(0 : UInt8)].toArray⟩ : ByteArray).data.toList = [0] := rfl
  rw [this, repeatL_zero, List.map_replicate]
  rfl

def bootWord : ByteArray := ⟨[(66 : UInt8), (79 : UInt8), (79 : UInt8), (84 : UInt8)].toArray⟩

theorem devWords_size (l : List Device) : (devWords l).size = 4 * l.length := by
  have key : ∀ (l : List Device) (s : ByteArray), (l.foldl (fun s x => s ++ putWord (devWord x)) s).size = s.size + 4 * l.length := by
    intro l
    induction l with
    | nil => intro s; rfl
    | cons x l ih =>
      intro s
      rw [List.foldl_cons, ih, ByteArray.size_append, putWord_size, List.length_cons]
      omega
  have := key l ⟨[].toArray⟩
  rw [show (⟨[].toArray⟩ : ByteArray).size = 0 from rfl, Nat.zero_add] at this
  exact this

theorem tables_ok {fr cp : Int} {l : List Device} : ∀ x ∈ tables fr cp l, tblOk x = true := by
  intro x hx
  unfold tables at hx
  cases h : boardFault fr cp l != 0 with
  | true => rw [h] at hx; cases hx
  | false =>
    have hd := boardFault_len h
    have hz : (devWords l).size = 4 * l.length := devWords_size l
    rw [h] at hx
    simp only [cond_false, List.mem_cons, List.not_mem_nil, or_false] at hx
    have n1 : nameOk ⟨[(77 : UInt8), (69 : UInt8), (77 : UInt8), (79 : UInt8)].toArray⟩ = true := by decide
    have n2 : nameOk ⟨[(67 : UInt8), (80 : UInt8), (85 : UInt8), (83 : UInt8)].toArray⟩ = true := by decide
    have n3 : nameOk ⟨[(68 : UInt8), (69 : UInt8), (86 : UInt8), (83 : UInt8)].toArray⟩ = true := by decide
    unfold tblOk
    rcases hx with rfl | rfl | rfl
    · rw [n1, putWord_size]; rfl
    · rw [n2, putWord_size]; rfl
    · rw [n3, hz]
      simp
      omega

def firm : ByteArray := ⟨[(70 : UInt8), (73 : UInt8), (82 : UInt8), (77 : UInt8)].toArray⟩

theorem wordAt_putWord (v : Int) : wordAt (putWord v) 0 = word v := by
  have h : ∀ i, i < 4 → ∀ x, nth [v % 256, v / 256 % 256, v / 65536 % 256, v / 16777216 % 256] i = some x → bt (putWord v) i = x := fun i hi x hx => by
    have h1 := nth_ofBytes (s := putWord v) (i := i) (by rw [putWord_size]; exact hi)
    rw [ofBytes_putWord, hx] at h1
    exact (Option.some.inj h1).symm
  unfold wordAt
  rw [h 0 (by omega) _ rfl, h 1 (by omega) _ rfl, h 2 (by omega) _ rfl, h 3 (by omega) _ rfl]
  unfold word
  omega

theorem wordAt_left {s t : ByteArray} {i : Nat} (h : i + 4 ≤ s.size) : wordAt (s ++ t) i = wordAt s i := by
  unfold wordAt
  rw [bt_append_left (by omega), bt_append_left (by omega), bt_append_left (by omega), bt_append_left (by omega)]

theorem wordAt_right (s t : ByteArray) (i : Nat) : wordAt (s ++ t) (s.size + i) = wordAt t i := by
  unfold wordAt
  rw [bt_append_right, show s.size + i + 1 = s.size + (i + 1) by omega, show s.size + i + 2 = s.size + (i + 2) by omega, show s.size + i + 3 = s.size + (i + 3) by omega, bt_append_right, bt_append_right, bt_append_right]

theorem wordSum_word {s : ByteArray} (v : Int) (h : s.size % 4 = 0) : wordSum (s ++ putWord v) = wordSum s + word v := by
  unfold wordSum
  rw [ByteArray.size_append, putWord_size, show (s.size + 4) / 4 = s.size / 4 + 1 by omega, List.range_succ, List.foldl_append, List.foldl_cons, List.foldl_nil]
  have h1 : 4 * (s.size / 4) = s.size := by omega
  have h2 := wordAt_right s (putWord v) 0
  rw [Nat.add_zero, wordAt_putWord] at h2
  rw [h1, h2]
  congr 1
  refine foldl_cong _ _ fun a j hj => ?_
  have := List.mem_range.1 hj
  rw [wordAt_left (by omega)]

def offW (base : Int) : Nat → List FirmTable → ByteArray
  | _, [] => ⟨[].toArray⟩
  | c, x :: l => putWord (IntKind.wrap .i64 (base + (c : Int))) ++ offW base (c + (tblText x).size) l

theorem tblRows_go (base : Int) : ∀ (l : List FirmTable) (a b : ByteArray), l.foldl (tblStep base) (a, b) = (a ++ offW base b.size l, b ++ catB (l.map tblText))
  | [], a, b => by
    show (a, b) = (a ++ ⟨[].toArray⟩, b ++ ⟨[].toArray⟩)
    rw [ba_append_empty, ba_append_empty]
  | x :: l, a, b => by
    rw [List.foldl_cons]
    show l.foldl (tblStep base) (a ++ putWord (IntKind.wrap .i64 (base + (b.size : Int))), b ++ tblText x) = _
    rw [tblRows_go base l, ByteArray.size_append, List.map_cons]
    simp only [offW, catB, ByteArray.append_assoc]

theorem offW_size (base : Int) : ∀ (l : List FirmTable) (c : Nat), (offW base c l).size = 4 * l.length
  | [], _ => rfl
  | x :: l, c => by rw [offW, ByteArray.size_append, putWord_size, offW_size base l, List.length_cons]; omega

/-- All that is put. -/
def tblAll (n : Int) (l : List FirmTable) : ByteArray := ((tblRows n l).1 ++ putWord (-(wordSum (tblRows n l).1))) ++ (tblRows n l).2

theorem tblRows_eq (n : Int) (l : List FirmTable) : tblRows n l = ((firm ++ putWord l.length) ++ offW (tblBase n l.length) 0 l, catB (l.map tblText)) := by
  unfold tblRows
  rw [tblRows_go]
  show (_, (⟨[].toArray⟩ : ByteArray) ++ catB (l.map tblText)) = _
  rw [ba_empty_append]
  rfl

theorem catB_tbl_size : ∀ {l : List FirmTable}, (∀ x ∈ l, tblOk x = true) → (catB (l.map tblText)).size ≤ 208 * l.length ∧ (catB (l.map tblText)).size % 4 = 0
  | [], _ => ⟨Nat.le_refl 0, rfl⟩
  | x :: l, h => by
    have h1 := tblText_size_ok (h x (List.mem_cons_self ..))
    have h2 := tblOk_facts (h x (List.mem_cons_self ..))
    obtain ⟨i1, i2⟩ := catB_tbl_size (l := l) fun y hy => h y (List.mem_cons_of_mem _ hy)
    simp only [List.map_cons, catB, ByteArray.size_append, List.length_cons]
    omega

theorem splice_size2 {s w : ByteArray} {i : Nat} (h : i + w.size ≤ s.size) : (splice s i w).size = s.size := by
  unfold splice
  rw [ByteArray.size_append, ByteArray.size_append, ByteArray.size_extract, ByteArray.size_extract]; omega

theorem offW_at (base : Int) : ∀ (pre : List FirmTable) (x : FirmTable) (suf : List FirmTable) (c : Nat), wordAt (offW base c (pre ++ x :: suf)) (4 * pre.length) = word (IntKind.wrap .i64 (base + ((c + (catB (pre.map tblText)).size : Nat) : Int)))
  | [], x, suf, c => by
    show wordAt (putWord (IntKind.wrap .i64 (base + (c : Int))) ++ offW base (c + (tblText x).size) suf) 0 = word (IntKind.wrap .i64 (base + ((c + (catB []).size : Nat) : Int)))
    rw [wordAt_left (by rw [putWord_size]; omega), wordAt_putWord]
    rfl
  | y :: pre, x, suf, c => by
    show wordAt (putWord (IntKind.wrap .i64 (base + (c : Int))) ++ offW base (c + (tblText y).size) (pre ++ x :: suf)) (4 * (pre.length + 1)) = _
    have := wordAt_right (putWord (IntKind.wrap .i64 (base + (c : Int)))) (offW base (c + (tblText y).size) (pre ++ x :: suf)) (4 * pre.length)
    rw [putWord_size] at this
    rw [show 4 * (pre.length + 1) = 4 + 4 * pre.length by omega, this, offW_at base pre x suf]
    congr 3
    simp only [List.map_cons, catB, ByteArray.size_append]
    omega

theorem put_facts {s : ByteArray} {n : Int} {l : List FirmTable} (h : putTables s n l ≠ ⟨[].toArray⟩) :
    memOk s = true ∧ l.length ≤ 10 ∧ (∀ x ∈ l, tblOk x = true) ∧ ∃ i : Nat, n = (i : Int) ∧ i % 4 = 0 ∧ i + (tblAll n l).size ≤ s.size ∧ putTables s n l = splice s i (tblAll n l) := by
  unfold putTables at h ⊢
  cases hc : (memOk s && (!decide (n < 0) && (!(Int.tmod n 4 != 0) && (!decide ((l.length : Int) > 10) && !(l.any fun x => !tblOk x))))) with
  | false => rw [hc] at h; exact absurd rfl h
  | true =>
    rw [hc, cond_true] at h
    have hc2 := hc
    simp only [Bool.and_eq_true, Bool.not_eq_true', decide_eq_false_iff_not] at hc2
    obtain ⟨g1, g2, g3, g4, g5⟩ := hc2
    obtain ⟨i, rfl⟩ := Int.eq_ofNat_of_zero_le (show 0 ≤ n by omega)
    have hm4 : Int.tmod (i : Int) 4 = 0 := by simpa using g3
    rw [tmod_nn (by omega)] at hm4
    have hsz : s.size ≤ 65536 := by
      have := g1
      unfold memOk at this
      simp only [Bool.and_eq_true, decide_eq_true_eq] at this
      omega
    change cond (fitsAt (s.size : Int) (i : Int) ((tblAll (i : Int) l).size : Int)) (splice s (i : Int).toNat (tblAll (i : Int) l)) ⟨[].toArray⟩ ≠ _ at h
    cases hf : fitsAt (s.size : Int) (i : Int) ((tblAll (i : Int) l).size : Int) with
    | false => rw [hf] at h; exact absurd rfl h
    | true =>
      obtain ⟨f1, f2, f3⟩ := fits_nat (by omega) hf
      refine ⟨g1, by omega, fun x hx => ?_, i, rfl, by omega, by omega, ?_⟩
      · have := List.any_eq_false.1 g5 x hx
        simpa using this
      · rw [cond_true]
        show cond (fitsAt (s.size : Int) (i : Int) ((tblAll (i : Int) l).size : Int)) (splice s (i : Int).toNat (tblAll (i : Int) l)) ⟨[].toArray⟩ = _
        rw [hf, cond_true, Int.toNat_natCast]

theorem tblAll_facts (i : Nat) (l : List FirmTable) (hi : i ≤ 65536) (hl : l.length ≤ 10) (hx : ∀ x ∈ l, tblOk x = true) :
    (tblAll (i : Int) l).size = 12 + 4 * l.length + (catB (l.map tblText)).size ∧ (tblAll (i : Int) l).extract 0 4 = firm ∧ wordAt (tblAll (i : Int) l) 4 = (l.length : Int) ∧
    (∀ pre x suf, l = pre ++ x :: suf → wordAt (tblAll (i : Int) l) (8 + 4 * pre.length) = ((i + 12 + 4 * l.length + (catB (pre.map tblText)).size : Nat) : Int)) ∧
    (∀ j, j < (catB (l.map tblText)).size → bt (tblAll (i : Int) l) (12 + 4 * l.length + j) = bt (catB (l.map tblText)) j) ∧
    word (wordSum ((tblAll (i : Int) l).extract 0 (12 + 4 * l.length))) = 0 := by
  unfold tblAll
  rw [tblRows_eq]
  dsimp only
  have hbase : tblBase (i : Int) l.length = ((i + 12 + 4 * l.length : Nat) : Int) := by
    unfold tblBase
    rw [w64 (n := (i : Int) + 12) (by omega) (by omega), w64 (n := 4 * (l.length : Int)) (by omega) (by omega), w64 (by omega) (by omega)]; omega
  rw [hbase]
  obtain ⟨F, hF⟩ : ∃ F, firm ++ putWord (l.length : Int) ++ offW ((i + 12 + 4 * l.length : Nat) : Int) 0 l = F := ⟨_, rfl⟩
  have h8 : (firm ++ putWord (l.length : Int)).size = 8 := by rw [ByteArray.size_append, putWord_size]; rfl
  have hFs : F.size = 8 + 4 * l.length := by rw [← hF, ByteArray.size_append, h8, offW_size]
  rw [hF]
  have hA : (F ++ putWord (-(wordSum F))).size = 12 + 4 * l.length := by rw [ByteArray.size_append, putWord_size, hFs]; omega
  have hfirm : firm.size = 4 := rfl
  refine ⟨by rw [ByteArray.size_append, hA], ?_, ?_, fun pre x suf e => ?_, fun j hj => ?_, ?_⟩
  · rw [← hF, ByteArray.append_assoc, ByteArray.append_assoc, ByteArray.append_assoc, ByteArray.append_assoc]
    exact extract_append_left rfl
  · rw [wordAt_left (by omega), wordAt_left (by omega), ← hF, wordAt_left (by omega)]
    have := wordAt_right firm (putWord (l.length : Int)) 0
    rw [wordAt_putWord] at this
    rw [show 4 = firm.size + 0 from rfl, this]
    unfold word; omega
  · have hlen : pre.length < l.length := by rw [e]; simp
    rw [wordAt_left (by omega), wordAt_left (by omega), ← hF]
    have := wordAt_right (firm ++ putWord (l.length : Int)) (offW ((i + 12 + 4 * l.length : Nat) : Int) 0 l) (4 * pre.length)
    rw [h8] at this
    rw [this]
    have ho := offW_at ((i + 12 + 4 * l.length : Nat) : Int) pre x suf 0
    rw [← e] at ho
    have hpre : ∀ y ∈ pre, tblOk y = true := fun y hy => hx y (by rw [e]; simp [hy])
    have := (catB_tbl_size hpre).1
    rw [ho, w64 (by omega) (by omega)]
    unfold word; omega
  · have := bt_append_right (s := F ++ putWord (-(wordSum F))) (t := catB (l.map tblText)) j
    rw [hA] at this
    exact this
  · rw [extract_append_left hA.symm, wordSum_word _ (by omega)]
    unfold word; omega

theorem put_outside {s : ByteArray} {n : Int} {l : List FirmTable} (hne : putTables s n l ≠ ⟨[].toArray⟩) : ∃ i e : Nat, n = (i : Int) ∧ i ≤ e ∧ e ≤ s.size ∧ (putTables s n l).size = s.size ∧ e = i + (12 + 4 * l.length + (catB (l.map tblText)).size) ∧ s.size ≤ 65536 ∧ l.length ≤ 10 ∧ (∀ x ∈ l, tblOk x = true) ∧
    (putTables s n l).extract 0 i = s.extract 0 i ∧ (putTables s n l).extract e s.size = s.extract e s.size := by
  obtain ⟨hm, hl, hx, i, rfl, hi4, hfit, he⟩ := put_facts hne
  have hsz : s.size ≤ 65536 := by
    have := hm
    unfold memOk at this
    simp only [Bool.and_eq_true, decide_eq_true_eq] at this
    omega
  obtain ⟨w1, _⟩ := tblAll_facts i l (by omega) hl hx
  refine ⟨i, i + (tblAll (i : Int) l).size, rfl, by omega, hfit, by rw [he]; exact splice_size2 hfit, by rw [w1], hsz, hl, hx, ?_, ?_⟩
  · rw [he]
    have e : (s.extract 0 i).size = i := by rw [ByteArray.size_extract]; omega
    unfold splice
    rw [ByteArray.append_assoc]
    exact extract_append_left e.symm
  · rw [he]
    have hs := splice_size2 hfit
    refine bytes_ext (by rw [ByteArray.size_extract, ByteArray.size_extract, hs]) fun j hj => ?_
    rw [ByteArray.size_extract, hs] at hj
    rw [bt_extract (by omega), bt_extract (by omega)]
    have e : (s.extract 0 i ++ tblAll (i : Int) l).size = i + (tblAll (i : Int) l).size := by rw [ByteArray.size_append, ByteArray.size_extract]; omega
    unfold splice
    have := bt_append_right (s := s.extract 0 i ++ tblAll (i : Int) l) (t := s.extract (i + (tblAll (i : Int) l).size) s.size) j
    rw [e] at this
    rw [this, bt_extract (by omega)]


theorem devB_facts {x : Device} {p : Bool} (h : dvB x p = false) : 1 ≤ x.fKind ∧ x.fKind ≤ 255 ∧ 0 ≤ x.fPort ∧ x.fPort ≤ 2047 ∧ 0 ≤ x.fLine ∧ x.fLine ≤ 6 := by
  unfold dvB at h
  simp only [Bool.or_eq_false_iff, Bool.not_eq_false', Bool.and_eq_true, decide_eq_true_eq] at h
  omega

theorem board_dev {fr cp : Int} {l : List Device} (h : (boardFault fr cp l != 0) = false) : 2 ≤ fr ∧ fr ≤ 256 ∧ 1 ≤ cp ∧ cp ≤ 8 ∧ l.length ≤ 16 ∧ ∀ i x, nth l i = some x → 1 ≤ x.fKind ∧ x.fKind ≤ 255 ∧ 0 ≤ x.fPort ∧ x.fPort ≤ 2047 ∧ 0 ≤ x.fLine ∧ x.fLine ≤ 6 := by
  unfold boardFault at h
  cases h1 : (!(decide (fr ≥ 2) && decide (fr ≤ 256)) || (!(decide (cp ≥ 1) && decide (cp ≤ 8)) || decide (l.length > 16))) with
  | true => rw [h1] at h; cases h
  | false =>
    rw [h1, cond_false] at h
    simp only [Bool.or_eq_false_iff, Bool.not_eq_false', Bool.and_eq_true, decide_eq_true_eq, decide_eq_false_iff_not] at h1
    refine ⟨by omega, by omega, by omega, by omega, by omega, fun i x hx => ?_⟩
    cases h2 : (List.range l.length).any (dvBad l) with
    | true => rw [h2] at h; cases h
    | false =>
      have := List.any_eq_false.1 h2 i (List.mem_range.2 (nth_lt hx))
      unfold dvBad at this
      rw [hx] at this
      exact devB_facts (by simpa using this)

def regsOk (l : List Int) : Bool := decide (1 ≤ l.length) && decide (l.length ≤ 8) && !(l.any fun x => !isW x)

theorem spec_l15Regs_r_eq {l : List Int} {b : Bool} (hN : 2 ^ 40 < N) (k : Bool → Option R) : g_spec_l15Regs_r N b l k = k (regsOk l) := by
  unfold g_spec_l15Regs_r regsOk
  have h1 : decide ((l.length : Int) ≥ 1) = decide (1 ≤ l.length) := decide_eq_decide.2 (by omega)
  have h2 : decide ((l.length : Int) ≤ 8) = decide (l.length ≤ 8) := decide_eq_decide.2 (by omega)
  rw [h1, h2]
  by_cases ha : 1 ≤ l.length
  · by_cases hb : l.length ≤ 8
    · rw [decide_eq_true ha, decide_eq_true hb, spec_l04Words_r_eq N (by omega) hN]; rfl
    · rw [decide_eq_true ha, decide_eq_false hb]; rfl
  · rw [decide_eq_false ha]; rfl

theorem impl_BoardFault_r_eq {fr cp : Int} {l : List Device} {b : Bool} (hN : 2 ^ 40 < N) (k : Int → Option R) : g_impl_BoardFault_r N fr cp b l k = k (boardFault fr cp l) := by
  unfold g_impl_BoardFault_r boardFault
  have hg : decide ((l.length : Int) > 16) = decide (l.length > 16) := decide_eq_decide.2 (by omega)
  simp only [hg, impl_yin_eq, cond_somes, oK_some_eq, Bool.cond_true_left]
  by_cases hp : (!(decide (fr ≥ 2) && decide (fr ≤ 256)) || (!(decide (cp ≥ 1) && decide (cp ≤ 8)) || decide (l.length > 16))) = true
  · rw [hp]; rfl
  · rw [Bool.not_eq_true] at hp
    have hl : ¬ l.length > 16 := fun e => by rw [decide_eq_true e] at hp; simp at hp
    rw [hp]
    simp only [cond_false]
    unfold c_impl_BoardFault_r_0
    refine (srch (l_impl_BoardFault_r_0 N b l.length l fr cp b (k 1) (k 0)) l.length (dvBad l) (k 1) (k 0) (fun f i hi => ?_) (fun f => ?_) (by omega)).trans (cond_app _ k 1 0)
    · obtain ⟨x, hx⟩ := nth_some hi
      simp only [l_impl_BoardFault_r_0, s_impl_BoardFault_r_0, dec_lt hi, dec_nn, Int.toNat_natCast, elemK_some hx, wrap_next hi (by omega), Bool.and_true, cond_true, dvBad, hx]
      by_cases h0 : 0 < i
      · obtain ⟨y, hy⟩ := nth_some (l := l) (n := i - 1) (by omega)
        simp only [wrap_prev h0 (by omega), Int.toNat_natCast, elemK_some hy, prevIs, hy, dec_nn, dec_lt (show i - 1 < l.length by omega), decide_eq_true h0, decide_eq_true (show (i : Int) > 0 by omega), impl_yin_eq, Bool.and_true, cond_true, cond_somes, oK_some_eq, Bool.true_and]
        refine congrArg (fun c => cond c _ _) ?_
        rw [Bool.eq_iff_iff]
        simp [dvB]
      · have h00 : i = 0 := by omega
        subst h00
        simp only [prevIs, decide_eq_false (show ¬ (0 : Nat) < 0 by omega), decide_eq_false (show ¬ ((0 : Nat) : Int) > 0 by omega), impl_yin_eq, cond_somes, oK_some_eq, cond_false, Bool.false_and]
        refine congrArg (fun c => cond c _ _) ?_
        rw [Bool.eq_iff_iff]
        simp [dvB]
    · simp only [l_impl_BoardFault_r_0, s_impl_BoardFault_r_0, dec_nlt, cond_false]

theorem spec_BoardFault_r_eq {fr cp : Int} {l : List Device} {b : Bool} (hN : 2 ^ 40 < N) (k : Int → Option R) : g_spec_BoardFault_r N fr cp b l k = k (boardFault fr cp l) := by
  unfold g_spec_BoardFault_r boardFault
  have hg : decide ((l.length : Int) > 16) = decide (l.length > 16) := decide_eq_decide.2 (by omega)
  have hq : (decide (fr < 2) || (decide (fr > 256) || (decide (cp < 1) || (decide (cp > 8) || decide (l.length > 16))))) = (!(decide (fr ≥ 2) && decide (fr ≤ 256)) || (!(decide (cp ≥ 1) && decide (cp ≤ 8)) || decide (l.length > 16))) := by
    rw [Bool.eq_iff_iff]; simp; omega
  simp only [hg, cond_somes, oK_some_eq, Bool.cond_true_left, hq]
  by_cases hp : (!(decide (fr ≥ 2) && decide (fr ≤ 256)) || (!(decide (cp ≥ 1) && decide (cp ≤ 8)) || decide (l.length > 16))) = true
  · rw [hp]; rfl
  · rw [Bool.not_eq_true] at hp
    have hl : ¬ l.length > 16 := fun e => by rw [decide_eq_true e] at hp; simp at hp
    rw [hp]
    simp only [cond_false]
    unfold c_spec_BoardFault_r_0
    refine (srch (l_spec_BoardFault_r_0 N l fr cp b (k 1) (k 0)) l.length (dvBad l) (k 1) (k 0) (fun f i hi => ?_) (fun f => ?_) (by omega)).trans (cond_app _ k 1 0)
    · obtain ⟨x, hx⟩ := nth_some hi
      simp only [l_spec_BoardFault_r_0, s_spec_BoardFault_r_0, dec_lt hi, dec_nn, Int.toNat_natCast, elemK_some hx, wrap_next hi (by omega), Bool.and_true, cond_true, dvBad, hx]
      by_cases h0 : 0 < i
      · obtain ⟨y, hy⟩ := nth_some (l := l) (n := i - 1) (by omega)
        simp only [wrap_prev h0 (by omega), Int.toNat_natCast, elemK_some hy, prevIs, hy, dec_nn, dec_lt (show i - 1 < l.length by omega), decide_eq_true h0, decide_eq_true (show (i : Int) > 0 by omega), Bool.and_true, cond_true, cond_somes, oK_some_eq, Bool.true_and]
        refine congrArg (fun c => cond c _ _) ?_
        rw [Bool.eq_iff_iff]
        simp [dvB]
        omega
      · have h00 : i = 0 := by omega
        subst h00
        simp only [prevIs, decide_eq_false (show ¬ (0 : Nat) < 0 by omega), decide_eq_false (show ¬ ((0 : Nat) : Int) > 0 by omega), cond_somes, oK_some_eq, cond_false, Bool.false_and]
        refine congrArg (fun c => cond c _ _) ?_
        rw [Bool.eq_iff_iff]
        simp [dvB]
        omega
    · simp only [l_spec_BoardFault_r_0, s_spec_BoardFault_r_0, dec_nlt, cond_false]

theorem hasPrefix_boot (s : ByteArray) (K : Bool → Option R) : g_strings_HasPrefix N s bootWord K = K (decide (s.size ≥ 4) && decide (s.extract 0 4 = bootWord)) := by
  unfold g_strings_HasPrefix g_internal_stringslite_HasPrefix
  have e : bootWord.size = 4 := rfl
  rw [e]
  by_cases h4 : s.size ≥ 4
  · rw [decide_eq_true (show (s.size : Int) ≥ ((4 : Nat) : Int) by omega), decide_eq_true h4]; rfl
  · rw [decide_eq_false (show ¬ (s.size : Int) ≥ ((4 : Nat) : Int) by omega), decide_eq_false h4]; rfl

def bootMeas (a b : ByteArray) : List Int := [mix (putWord 0 ++ a) 31, mix (putWord 0 ++ b) 31]

theorem impl_ymeasure_boot {a b : ByteArray} (ha : a.size ≤ 4096) (hb : b.size ≤ 4096) (hN : 2 ^ 40 < N) (k : Bool → List Int → Option R) :
    g_impl_ymeasure_ww N false false [(0 : Int), (0 : Int)] [(Stage.mk (0 : Int) a), (Stage.mk (1 : Int) b)] k = k false (bootMeas a b) := by
  have h1 : (putWord 0 ++ a).size = 4 + a.size := by rw [ByteArray.size_append, putWord_size]
  have h2 : (putWord 0 ++ b).size = 4 + b.size := by rw [ByteArray.size_append, putWord_size]
  have e1 : IntKind.wrap .i64 (1 : Int) = 1 := rfl
  have e2 : IntKind.wrap .i64 (2 : Int) = 2 := rfl
  have q1 : Nat.blt 0 2 = true := rfl
  have q2 : Nat.blt 1 2 = true := rfl
  obtain ⟨M, rfl⟩ : ∃ M, N = M + 3 := ⟨N - 3, by omega⟩
  unfold g_impl_ymeasure_ww g_slices_Clone_int64_w c_impl_ymeasure_ww_0
  rw [cond_false, show roomOk (0 + [(0 : Int), 0].length) 8 = true from rfl, cond_true]
  simp [l_impl_ymeasure_ww_0, s_impl_ymeasure_ww_0, elemK, nth, nset, impl_PutWord_eq, putWord_size, e1, e2, q1, q2, ble_t (show 4 + a.size ≤ 9223372036854775807 by omega), ble_t (show 4 + b.size ≤ 9223372036854775807 by omega), impl_ymix_eq (M + 3) (show (putWord 0 ++ a).size ≤ 2 ^ 40 by omega) hN, impl_ymix_eq (M + 3) (show (putWord 0 ++ b).size ≤ 2 ^ 40 by omega) hN, bootMeas]

theorem spec_Measure_boot {a b : ByteArray} (ha : a.size ≤ 4096) (hb : b.size ≤ 4096) (hN : 2 ^ 40 < N) (k : Bool → List Int → Option R) :
    g_spec_Measure_ww N false false [(0 : Int), (0 : Int)] [(Stage.mk (0 : Int) a), (Stage.mk (1 : Int) b)] k = k false (bootMeas a b) := by
  have e1 : IntKind.wrap .i64 (1 : Int) = 1 := rfl
  have e2 : IntKind.wrap .i64 (2 : Int) = 2 := rfl
  have q1 : Nat.blt 0 2 = true := rfl
  have q2 : Nat.blt 1 2 = true := rfl
  obtain ⟨M, rfl⟩ : ∃ M, N = M + 3 := ⟨N - 3, by omega⟩
  have hm : ∀ (x : ByteArray) (K : Int → Option R), x.size ≤ 4096 → g_spec_Mix (M + 3) (putWord 0 ++ x) 31 K = K (mix (putWord 0 ++ x) 31) := fun x K hx => by
    have hs : (putWord 0 ++ x).size = 4 + x.size := by rw [ByteArray.size_append, putWord_size]
    rw [spec_Mix_eq _ hN, decide_eq_false (by omega), cond_false]
  unfold g_spec_Measure_ww g_spec_l01Ints_w c_spec_Measure_ww_0
  rw [spec_l15Regs_r_eq _ hN, show regsOk [(0 : Int), 0] = true from rfl, Bool.not_true, cond_false, oK_some_eq, decide_eq_false (by simp), cond_false, show roomOk (0 + [(0 : Int), 0].length) 8 = true from rfl, cond_true]
  simp [l_spec_Measure_ww_0, s_spec_Measure_ww_0, elemK, nth, nset, spec_PutWord_eq, putWord_size, e1, e2, q1, q2, ble_t (show 4 + a.size ≤ 9223372036854775807 by omega), ble_t (show 4 + b.size ≤ 9223372036854775807 by omega), hm _ _ ha, hm _ _ hb, bootMeas, decide_eq_false (show ¬ (4096 : Int) < (a.size : Int) by omega), decide_eq_false (show ¬ (4096 : Int) < (b.size : Int) by omega)]

def BootSame (F G : (Int → Int → Bool → Int → Bool → Bool → ByteArray → Bool → List Int → List Int → List Int → List Int → Option R) → Option R) : Prop :=
  ∃ (c pc md : Int) (m : ByteArray) (L1 L2 L3 L4 : List Int), (L1.length ≤ 16 ∧ L2.length ≤ 16 ∧ L3.length ≤ 16 ∧ L4.length ≤ 16) ∧ (∃ b1 b2 b3 b4, ∀ k, F k = k c pc b1 md b2 b3 m b4 L1 L2 L3 L4) ∧ (∃ b1 b2 b3 b4, ∀ k, G k = k c pc b1 md b2 b3 m b4 L1 L2 L3 L4)

theorem same_err (c : Int) {F G : (Int → Int → Bool → Int → Bool → Bool → ByteArray → Bool → List Int → List Int → List Int → List Int → Option R) → Option R} (h1 : ∀ k, F k = k c 0 true 0 true true ⟨[].toArray⟩ true [] [] [] []) (h2 : ∀ k, G k = k c 0 true 0 true true ⟨[].toArray⟩ true [] [] [] []) : BootSame F G :=
  ⟨c, 0, 0, ⟨[].toArray⟩, [], [], [], [], by simp, ⟨_, _, _, _, h1⟩, ⟨_, _, _, _, h2⟩⟩


theorem spec_PutTables_eq {s : ByteArray} {n : Int} {l : List FirmTable} {b : Bool} (hs : s.size ≤ 2 ^ 30) (hx : ∀ x ∈ l, x.fName.size ≤ 2 ^ 30 ∧ x.fBody.size ≤ 2 ^ 30) (hN : 2 ^ 40 < N) (k : ByteArray → Option R) : g_spec_PutTables_w N s n b l k = k (putTables s n l) := by
  unfold g_spec_PutTables_w
  simp only [spec_MemFault_eq, cond_somes, oK_some_eq, Bool.cond_true_left]
  have hm : ((cond (memOk s) (0 : Int) 1) != 0) = !memOk s := by cases memOk s <;> rfl
  rw [hm]
  by_cases hg : (memOk s && (!decide (n < 0) && (!(n.tmod 4 != 0) && (!decide ((l.length : Int) > 10))))) = true
  · have hg' := hg
    simp only [Bool.and_eq_true, Bool.not_eq_true', decide_eq_false_iff_not] at hg
    obtain ⟨g1, g2, g3, h10⟩ := hg
    by_cases hn : n > (s.size : Int)
    · have hf : ∀ t, fitsAt s.size n t = false := fun t => by
        unfold fitsAt
        rw [decide_eq_false (show ¬ n ≤ (s.size : Int) by omega)]
        cases decide (n ≥ 0) <;> cases decide (t ≥ 0) <;> rfl
      rw [decide_eq_true hn]
      unfold putTables
      rw [hf, cond_false, cond_same]
      cases memOk s <;> cases decide (n < 0) <;> cases (n.tmod 4 != 0) <;> rfl
    · rw [decide_eq_false hn, g1, decide_eq_false g2, g3, decide_eq_false h10]
      have hp : putTables s n l = cond (l.any fun x => !tblOk x) ⟨[].toArray⟩ (cond (fitsAt s.size n (((tblRows n l).1 ++ putWord (-(wordSum (tblRows n l).1))) ++ (tblRows n l).2).size) (splice s n.toNat (((tblRows n l).1 ++ putWord (-(wordSum (tblRows n l).1))) ++ (tblRows n l).2)) ⟨[].toArray⟩) := by
        unfold putTables
        rw [g1, decide_eq_false g2, g3, decide_eq_false h10]
        cases (l.any fun x => !tblOk x) <;> rfl
      rw [hp, Bool.not_true, Bool.or_false, Bool.or_false, Bool.or_false, Bool.or_false, cond_false, spec_PutWord_eq, putWord_size, show Nat.ble (4 + 4) 9223372036854775807 = true from rfl, cond_true]
      refine (spec_PutTables_loop N (by omega) hx hN _ _).trans ?_
      cases hany : (l.any fun x => !tblOk x) with
      | true => rfl
      | false =>
        have hall : ∀ x ∈ l, tblOk x = true := by
          intro x hm
          have := List.any_eq_false.1 hany x hm
          simpa using this
        obtain ⟨_, a2, a3⟩ := impl_PutTables_loop N (s := s) (n := n) (b := b) (l := l) (by omega) hall hN (fun _ _ => (none : Option R))
        simp only [cond_false]
        generalize tblRows n l = st at a2 a3 ⊢
        obtain ⟨hd, bd⟩ := st
        dsimp only at a2 a3 ⊢
        obtain ⟨_, w1, w2⟩ := spec_l21Words_eq N (s := hd) (by omega) hN (fun _ => (none : Option R))
        have hsz : (hd ++ putWord (-(wordSum hd))).size = hd.size + 4 := by rw [ByteArray.size_append, putWord_size]
        have hsz3 : ((hd ++ putWord (-(wordSum hd))) ++ bd).size = hd.size + 4 + bd.size := by rw [ByteArray.size_append, hsz]
        rw [(spec_l21Words_eq N (s := hd) (by omega) hN _).1, spec_PutWord_eq, w64 (n := 0 - wordSum hd) (by omega) (by omega), show 0 - wordSum hd = -(wordSum hd) by omega, putWord_size, ble_t (by omega), cond_true, spec_l10In_eq, hsz, hsz3,
          w64 (n := ((hd.size + 4 : Nat) : Int) + (bd.size : Int)) (by omega) (by omega), show ((hd.size + 4 : Nat) : Int) + (bd.size : Int) = ((hd.size + 4 + bd.size : Nat) : Int) by omega]
        cases hf : fitsAt s.size n ((hd.size + 4 + bd.size : Nat) : Int) with
        | false => rfl
        | true =>
          obtain ⟨f1, f2, f3⟩ := fits_nat (by omega) hf
          obtain ⟨a, rfl⟩ := Int.eq_ofNat_of_zero_le f1
          have e1 : IntKind.wrap .i64 ((a : Int) + ((hd.size + 4 + bd.size : Nat) : Int)) = ((a + (hd.size + 4 + bd.size) : Nat) : Int) := by rw [w64 (by omega) (by omega)]; omega
          simp only [Bool.not_true, cond_false, cond_true, e1, dec_nn, Int.toNat_natCast, decide_eq_true (show ((a : Int) ≤ (s.size : Int)) by omega), decide_eq_true (show (((a + (hd.size + 4 + bd.size) : Nat) : Int) ≤ (s.size : Int)) by omega), Bool.and_true, Int.le_refl, decide_true]
          rw [ble_t (by rw [ByteArray.size_extract]; omega), cond_true, ble_t (by rw [ByteArray.size_append, ByteArray.size_extract, hsz]; omega), cond_true, ble_t (by rw [ByteArray.size_append, ByteArray.size_append, ByteArray.size_extract, ByteArray.size_extract, hsz]; omega), cond_true]
          unfold splice
          rw [hsz3, ByteArray.append_assoc (a := s.extract 0 a)]
  · rw [Bool.not_eq_true] at hg
    have hp : putTables s n l = ⟨[].toArray⟩ := by
      unfold putTables
      revert hg
      cases memOk s <;> cases decide (n < 0) <;> cases (n.tmod 4 != 0) <;> cases decide ((l.length : Int) > 10) <;> intro hg <;> first | rfl | cases hg
    rw [hp]
    revert hg
    cases memOk s <;> cases decide (n < 0) <;> cases (n.tmod 4 != 0) <;> cases decide ((l.length : Int) > 10) <;> cases decide (n > (s.size : Int)) <;> intro hg <;> first | rfl | cases hg

theorem impl_NewMachine_eq {s : ByteArray} (h : memOk s = true) (k : Bool → Int → Bool → Bool → ByteArray → List Int → List Int → List Int → Option R) : g_impl_NewMachine N s k = k false 1 false false s (List.replicate 16 0) (List.replicate 12 0) (List.replicate 16 0) := by
  unfold g_impl_NewMachine
  rw [impl_ymemOk_eq, h]; rfl

theorem spec_NewMachine_eq {s : ByteArray} (h : memOk s = true) (k : Bool → Int → Bool → Bool → ByteArray → List Int → List Int → List Int → Option R) : g_spec_NewMachine N s k = k false 1 false false s (List.replicate 16 0) (List.replicate 12 0) (List.replicate 16 0) := by
  unfold g_spec_NewMachine
  rw [spec_MemFault_eq, h]; rfl

def bootRegs (a b : Int) : List Int := nset (nset (List.replicate 16 0) 1 a) 2 b

theorem bootRegs_length (a b : Int) : (bootRegs a b).length = 16 := rfl

theorem replicate_zeros (n : Nat) : toBytes (seg (List.replicate n (0 : Int)) 0 (List.replicate n (0 : Int)).length) = zeros n := by rw [seg_all]; rfl

theorem spec_l06Frame_eq {s : ByteArray} {f : Nat} (hf : f * 256 + 256 ≤ s.size) (hs : s.size ≤ 2 ^ 40) (k : ByteArray → Option R) : g_spec_l06Frame N s (f : Int) k = k (s.extract (f * 256) (f * 256 + 256)) := by
  unfold g_spec_l06Frame
  rw [w64 (n := (f : Int) * 256) (by omega) (by omega), w64 (n := (f : Int) + 1) (by omega) (by omega), w64 (by omega) (by omega), decide_eq_true (by omega), decide_eq_true (by omega), decide_eq_true (by omega)]
  rw [show ((f : Int) * 256).toNat = f * 256 by omega, show (((f : Int) + 1) * 256).toNat = f * 256 + 256 by omega]
  rfl

theorem Boot_same {s : ByteArray} {fr cp : Int} {l : List Device} {b : Bool} (hN : 2 ^ 40 < N) : BootSame (R := R) (g_impl_Boot_w N s fr cp b l) (g_spec_Boot_w N s fr cp b l) := by
  have hI0 : ∀ k : _ → _ → _ → _ → _ → _ → _ → _ → _ → _ → _ → _ → Option R, g_impl_Boot_w N s fr cp b l k = cond (decide ((s.size : Int) > 65536)) (k (2 : Int) (0 : Int) true (0 : Int) true true (ByteArray.mk (List.toArray [])) true [] [] [] []) (g_impl_yboot_w N s fr cp b l k) := fun k => by
    unfold g_impl_Boot_w
    rw [ybig_eq N hN]
  have hS0 : ∀ k : _ → _ → _ → _ → _ → _ → _ → _ → _ → _ → _ → _ → Option R, g_spec_Boot_w N s fr cp b l k = _ := fun k => by
    unfold g_spec_Boot_w
    rfl
  by_cases h1 : (s.size : Int) > 65536
  · refine same_err 2 (fun k => ?_) (fun k => ?_)
    · rw [hI0, decide_eq_true h1]; rfl
    · rw [hS0, decide_eq_true h1]; rfl
  have hI1 : ∀ k : _ → _ → _ → _ → _ → _ → _ → _ → _ → _ → _ → _ → Option R, g_impl_Boot_w N s fr cp b l k = _ := fun k => by
    rw [hI0, decide_eq_false h1, cond_false, g_impl_yboot_w, impl_BoardFault_r_eq N hN, cond_somes, oK_some_eq]
  have hS1 : ∀ k : _ → _ → _ → _ → _ → _ → _ → _ → _ → _ → _ → _ → Option R, g_spec_Boot_w N s fr cp b l k = _ := fun k => by
    rw [hS0, decide_eq_false h1, cond_false, spec_BoardFault_r_eq N hN, cond_somes, oK_some_eq]
  cases h2 : (cond (boardFault fr cp l != 0) true (Int.tmod (s.size : Int) 64 != 0)) with
  | true =>
    refine same_err 1 (fun k => ?_) (fun k => ?_)
    · rw [hI1, h2]; rfl
    · rw [hS1, h2]; rfl
  | false =>
  have hbf : (boardFault fr cp l != 0) = false := by
    cases hb : (boardFault fr cp l != 0) with
    | true => rw [hb] at h2; cases h2
    | false => rfl
  rw [hbf, cond_false] at h2
  obtain ⟨hf1, hf2, _, _, hl16, _⟩ := board_dev hbf
  have hm64 : s.size % 64 = 0 := by
    rw [tmod_nn (by omega)] at h2
    simp at h2; omega
  have hI2 : ∀ k : _ → _ → _ → _ → _ → _ → _ → _ → _ → _ → _ → _ → Option R, g_impl_Boot_w N s fr cp b l k = _ := fun k => by
    rw [hI1, hbf, cond_false, h2, cond_false, show (ByteArray.mk (List.toArray [(66 : UInt8), (79 : UInt8), (79 : UInt8), (84 : UInt8)])) = bootWord from rfl, hasPrefix_boot]
  have hS2 : ∀ k : _ → _ → _ → _ → _ → _ → _ → _ → _ → _ → _ → _ → Option R, g_spec_Boot_w N s fr cp b l k = _ := fun k => by
    rw [hS1, hbf, cond_false, h2, cond_false, show (ByteArray.mk (List.toArray [(66 : UInt8), (79 : UInt8), (79 : UInt8), (84 : UInt8)])) = bootWord from rfl]
  by_cases h0 : s.size = 0
  · refine same_err 3 (fun k => ?_) (fun k => ?_)
    · rw [hI2, decide_eq_false (show ¬ s.size ≥ 4 by omega)]; rfl
    · rw [hS2, beq_dec, decide_eq_true (show (s.size : Int) = 0 by omega)]; rfl
  have hI3 : ∀ k : _ → _ → _ → _ → _ → _ → _ → _ → _ → _ → _ → _ → Option R, g_impl_Boot_w N s fr cp b l k = _ := fun k => by
    rw [hI2, decide_eq_true (show s.size ≥ 4 by omega), Bool.true_and]
  have hS3 : ∀ k : _ → _ → _ → _ → _ → _ → _ → _ → _ → _ → _ → _ → Option R, g_spec_Boot_w N s fr cp b l k = _ := fun k => by
    rw [hS2, beq_dec, decide_eq_false (show ¬ (s.size : Int) = 0 by omega), cond_false, decide_eq_true (show (4 : Int) ≤ (s.size : Int) by omega), cond_true, oK_some_eq, show (4 : Int).toNat = 4 from rfl]
  cases h3 : decide (s.extract 0 4 = bootWord) with
  | false =>
    refine same_err 3 (fun k => ?_) (fun k => ?_)
    · rw [hI3, h3]; rfl
    · rw [hS3, h3]; rfl
  | true =>
  have hsz : s.size ≤ 2 ^ 60 := by omega
  have i4 : ∀ k : Int → Option R, g_impl_ywordAt N s 4 k = k (wordAt s 4) := fun k => impl_ywordAt_eq N (i := 4) (by omega) hsz k
  have i8 : ∀ k : Int → Option R, g_impl_ywordAt N s 8 k = k (wordAt s 8) := fun k => impl_ywordAt_eq N (i := 8) (by omega) hsz k
  have i12 : ∀ k : Int → Option R, g_impl_ywordAt N s 12 k = k (wordAt s 12) := fun k => impl_ywordAt_eq N (i := 12) (by omega) hsz k
  have i16 : ∀ k : Int → Option R, g_impl_ywordAt N s 16 k = k (wordAt s 16) := fun k => impl_ywordAt_eq N (i := 16) (by omega) hsz k
  have s4 : ∀ k : Int → Option R, g_spec_l01Word N s 4 k = k (wordAt s 4) := fun k => spec_l01Word_eq N (i := 4) (by omega) hsz k
  have s8 : ∀ k : Int → Option R, g_spec_l01Word N s 8 k = k (wordAt s 8) := fun k => spec_l01Word_eq N (i := 8) (by omega) hsz k
  have s12 : ∀ k : Int → Option R, g_spec_l01Word N s 12 k = k (wordAt s 12) := fun k => spec_l01Word_eq N (i := 12) (by omega) hsz k
  have s16 : ∀ k : Int → Option R, g_spec_l01Word N s 16 k = k (wordAt s 16) := fun k => spec_l01Word_eq N (i := 16) (by omega) hsz k
  obtain ⟨p0, p1⟩ := wordAt_bound s 4
  obtain ⟨m0, m1⟩ := wordAt_bound s 12
  generalize wordAt s 4 = p at i4 s4 p0 p1
  generalize wordAt s 8 = e at i8 s8
  generalize wordAt s 12 = n at i12 s12 m0 m1
  generalize wordAt s 16 = sm at i16 s16
  obtain ⟨p, rfl⟩ := Int.eq_ofNat_of_zero_le p0
  obtain ⟨m, rfl⟩ := Int.eq_ofNat_of_zero_le m0
  have e4 : IntKind.wrap .i64 (4 * (m : Int)) = ((4 * m : Nat) : Int) := by rw [w64 (by omega) (by omega)]; omega
  have hI4 : ∀ k : _ → _ → _ → _ → _ → _ → _ → _ → _ → _ → _ → _ → Option R, g_impl_Boot_w N s fr cp b l k = _ := fun k => by
    rw [hI3, h3, Bool.not_true, cond_false, i4, i8, i12, i16, e4, impl_yin_eq, impl_yfits_eq, cond_somes, cond_somes, oK_some_eq]
  have hS4 : ∀ k : _ → _ → _ → _ → _ → _ → _ → _ → _ → _ → _ → _ → Option R, g_spec_Boot_w N s fr cp b l k = _ := fun k => by
    rw [hS3, h3, Bool.not_true, cond_false, s4, s12, e4, spec_l10In_eq, cond_somes, cond_somes, cond_somes, oK_some_eq]
  have hc : (cond ((Int.tmod (p : Int) 4) != 0) true (cond (decide ((m : Int) < 1)) true (cond (decide ((m : Int) > 1000)) true (!fitsAt (s.size : Int) 64 ((4 * m : Nat) : Int))))) = (cond ((Int.tmod (p : Int) 4) != 0) true (cond (!(decide ((m : Int) ≥ 1) && decide ((m : Int) ≤ 1000))) true (!fitsAt (s.size : Int) 64 ((4 * m : Nat) : Int)))) := by
    have a1 : decide ((m : Int) < 1) = !decide ((m : Int) ≥ 1) := by rw [← decide_not]; exact decide_eq_decide.2 (by omega)
    have a2 : decide ((m : Int) > 1000) = !decide ((m : Int) ≤ 1000) := by rw [← decide_not]; exact decide_eq_decide.2 (by omega)
    rw [a1, a2]
    cases decide ((m : Int) ≥ 1) <;> cases decide ((m : Int) ≤ 1000) <;> rfl
  cases h4 : (cond ((Int.tmod (p : Int) 4) != 0) true (cond (!(decide ((m : Int) ≥ 1) && decide ((m : Int) ≤ 1000))) true (!fitsAt (s.size : Int) 64 ((4 * m : Nat) : Int)))) with
  | true =>
    refine same_err 3 (fun k => ?_) (fun k => ?_)
    · rw [hI4, h4]; rfl
    · rw [hS4, hc, h4]; rfl
  | false =>
  have hI5 : ∀ k : _ → _ → _ → _ → _ → _ → _ → _ → _ → _ → _ → _ → Option R, g_impl_Boot_w N s fr cp b l k = _ := fun k => by
    rw [hI4, h4, cond_false]
  have hS5 : ∀ k : _ → _ → _ → _ → _ → _ → _ → _ → _ → _ → _ → _ → Option R, g_spec_Boot_w N s fr cp b l k = _ := fun k => by
    rw [hS4, hc, h4, cond_false]
  have hfit : m ≤ 1000 ∧ 64 + 4 * m ≤ s.size := by
    revert h4
    cases ((Int.tmod (p : Int) 4) != 0) with
    | true => intro h; cases h
    | false =>
      by_cases hm : (m : Int) ≤ 1000
      · rw [decide_eq_true hm]
        cases decide ((m : Int) ≥ 1) with
        | false => intro h; cases h
        | true =>
          intro h
          have h : fitsAt (s.size : Int) 64 ((4 * m : Nat) : Int) = true := by simpa using h
          obtain ⟨_, _, h⟩ := fits_nat (by omega) h
          omega
      · rw [decide_eq_false hm, Bool.and_false]
        intro h; cases h
  obtain ⟨hm, hsm⟩ := hfit
  clear hI0 hI1 hI2 hI3 hI4 hS0 hS1 hS2 hS3 hS4 hc h4
  have e64 : IntKind.wrap .i64 (64 + ((4 * m : Nat) : Int)) = ((64 + 4 * m : Nat) : Int) := by rw [w64 (by omega) (by omega)]; omega
  have hcs : (s.extract 64 (64 + 4 * m)).size = 4 * m := by rw [ByteArray.size_extract]; omega
  have hI6 : ∀ k : _ → _ → _ → _ → _ → _ → _ → _ → _ → _ → _ → _ → Option R, g_impl_Boot_w N s fr cp b l k = _ := fun k => by
    rw [hI5, e64, decide_eq_true (show (64 : Int) ≤ ((64 + 4 * m : Nat) : Int) by omega), decide_eq_true (show ((64 + 4 * m : Nat) : Int) ≤ (s.size : Int) by omega), Bool.and_self, cond_true, Int.toNat_natCast, impl_ymix_eq N (by omega) hN]
  have hS6 : ∀ k : _ → _ → _ → _ → _ → _ → _ → _ → _ → _ → _ → _ → Option R, g_spec_Boot_w N s fr cp b l k = _ := fun k => by
    rw [hS5, e64, decide_eq_true (show (64 : Int) ≤ ((64 + 4 * m : Nat) : Int) by omega), decide_eq_true (show ((64 + 4 * m : Nat) : Int) ≤ (s.size : Int) by omega), Bool.and_self, cond_true, Int.toNat_natCast, spec_Mix_eq N hN, decide_eq_false (show ¬ ((s.extract 64 (64 + 4 * m)).size : Int) > 65536 by omega), cond_false, s16]
  generalize s.extract 64 (64 + 4 * m) = code at hI6 hS6 hcs
  clear hI5 hS5
  cases h5 : (mix code 71 != sm) with
  | true =>
    refine same_err 10 (fun k => ?_) (fun k => ?_)
    · rw [hI6, h5]; rfl
    · rw [hS6, h5]; rfl
  | false =>
  obtain ⟨f, rfl⟩ : ∃ f : Nat, fr = (f : Int) := ⟨fr.toNat, by omega⟩
  have e5 : IntKind.wrap .i64 ((p : Int) + ((4 * m : Nat) : Int)) = ((p + 4 * m : Nat) : Int) := by rw [w64 (by omega) (by omega)]; omega
  have e0 : IntKind.wrap .i64 ((f : Int) - 1) = ((f - 1 : Nat) : Int) := by rw [w64 (by omega) (by omega)]; omega
  have e6 : IntKind.wrap .i64 (((f - 1 : Nat) : Int) * 256) = (((f - 1) * 256 : Nat) : Int) := by rw [w64 (by omega) (by omega)]; omega
  have e7 : IntKind.wrap .i64 ((f : Int) * 256) = ((f * 256 : Nat) : Int) := by rw [w64 (by omega) (by omega)]; omega
  have hf256 : f * 256 = (f - 1) * 256 + 256 := by omega
  have hI7 : ∀ k : _ → _ → _ → _ → _ → _ → _ → _ → _ → _ → _ → _ → Option R, g_impl_Boot_w N s f cp b l k = _ := fun k => by
    rw [hI6, h5, cond_false, e5, e0, e6]
  have hS7 : ∀ k : _ → _ → _ → _ → _ → _ → _ → _ → _ → _ → _ → _ → Option R, g_spec_Boot_w N s f cp b l k = _ := fun k => by
    rw [hS6, h5, cond_false, e5, e0, e6]
  clear hI6 hS6
  by_cases h6 : ((p + 4 * m : Nat) : Int) > (((f - 1) * 256 : Nat) : Int)
  · refine same_err 2 (fun k => ?_) (fun k => ?_)
    · rw [hI7, decide_eq_true h6]; rfl
    · rw [hS7, decide_eq_true h6]; rfl
  have hrep : repOk (⟨[(0 : UInt8)].toArray⟩ : ByteArray) ((f * 256 : Nat) : Int) = true := by
    unfold repOk
    rw [dec_nn, Int.toNat_natCast, ble_t (by omega), show (⟨[(0 : UInt8)].toArray⟩ : ByteArray).size = 1 from rfl, ble_t (by omega)]; rfl
  have hroom : roomOk (f * 256) 1 = true := by
    unfold roomOk
    rw [ble_t (by omega), ble_t (by omega)]; rfl
  have hz : (zeros (f * 256)).size = f * 256 := zeros_size _
  have hfits : fitsAt ((zeros (f * 256)).size : Int) (p : Int) (code.size : Int) = true := by
    unfold fitsAt
    rw [hz, w64 (by omega) (by omega), decide_eq_true (by omega), decide_eq_true (by omega), decide_eq_true (by omega), decide_eq_true (by omega)]; rfl
  have hM : (splice (zeros (f * 256)) p code).size = f * 256 := by rw [splice_size2 (by omega), hz]
  have htl := tables_length (f : Int) cp l
  have hto := tables_ok (fr := (f : Int)) (cp := cp) (l := l)
  have hI8 : ∀ k : _ → _ → _ → _ → _ → _ → _ → _ → _ → _ → _ → _ → Option R, g_impl_Boot_w N s f cp b l k = _ := fun k => by
    rw [hI7, decide_eq_false h6, cond_false, e7, hrep, cond_true, repB_zero, Int.toNat_natCast, impl_ysplice_eq N (by omega) hfits, impl_TablesOf_eq N hN, Int.toNat_natCast, impl_PutTables_eq N (by omega) (by omega) (fun x hx => by have := tblOk_facts (hto x hx); omega) hN]
  have hS8 : ∀ k : _ → _ → _ → _ → _ → _ → _ → _ → _ → _ → _ → _ → Option R, g_spec_Boot_w N s f cp b l k = _ := fun k => by
    rw [hS7, decide_eq_false h6, cond_false, e7, decide_eq_true (rfl : ((f * 256 : Nat) : Int) = ((f * 256 : Nat) : Int)), dec_nn, Bool.and_self, Int.toNat_natCast, hroom, Bool.and_self, cond_true, ble_t (show 0 + (List.replicate (f * 256) (0 : Int)).length ≤ (List.replicate (f * 256) (0 : Int)).length by omega), cond_true, replicate_zeros, hz, dec_nn, decide_eq_true (show (p : Int) ≤ ((f * 256 : Nat) : Int) by omega), Bool.and_self, cond_true, Int.toNat_natCast,
      ble_t (by rw [ByteArray.size_extract]; omega), cond_true, dec_nn, decide_eq_true (show ((p + 4 * m : Nat) : Int) ≤ ((f * 256 : Nat) : Int) by omega), Bool.and_self, decide_eq_true (show ((f * 256 : Nat) : Int) ≤ ((f * 256 : Nat) : Int) by omega), Bool.and_self, cond_true, Int.toNat_natCast, Int.toNat_natCast, ble_t (by rw [ByteArray.size_append, ByteArray.size_extract, ByteArray.size_extract]; omega), cond_true, spec_TablesOf_eq N hN,
      show (zeros (f * 256)).extract 0 p ++ code ++ (zeros (f * 256)).extract (p + 4 * m) (f * 256) = splice (zeros (f * 256)) p code by unfold splice; rw [hz, hcs], spec_PutTables_eq N (by omega) (fun x hx => by have := tblOk_facts (hto x hx); omega) hN]
  clear hI7 hS7
  by_cases h7 : putTables (splice (zeros (f * 256)) p code) (((f - 1) * 256 : Nat) : Int) (tables f cp l) = ⟨[].toArray⟩
  · refine same_err 2 (fun k => ?_) (fun k => ?_)
    · rw [hI8, decide_eq_true h7]; rfl
    · rw [hS8, decide_eq_true h7]; rfl
  obtain ⟨_, _, _, _, _, hT, _⟩ := put_outside h7
  obtain ⟨hmb, _⟩ := put_facts h7
  generalize putTables (splice (zeros (f * 256)) p code) (((f - 1) * 256 : Nat) : Int) (tables f cp l) = T at hI8 hS8 h7 hT
  have hTm : memOk T = true := by rw [← hmb]; unfold memOk; rw [hT]
  rw [hM] at hT
  have hx1 : nth (List.replicate 16 (0 : Int)) 1 = some 0 := rfl
  have hx2 : nth (nset (List.replicate 16 (0 : Int)) 1 (((f - 1) * 256 : Nat) : Int)) 2 = some 0 := rfl
  have hl2 : (nset (List.replicate 16 (0 : Int)) 1 (((f - 1) * 256 : Nat) : Int)).length = 16 := rfl
  have hex : T.extract ((f - 1) * 256) T.size = T.extract ((f - 1) * 256) ((f - 1) * 256 + 256) := by rw [hT, hf256]
  refine ⟨0, e, 1, T, bootRegs (((f - 1) * 256 : Nat) : Int) m, List.replicate 12 0, List.replicate 16 0, bootMeas (T.extract ((f - 1) * 256) T.size) code, ⟨by rw [bootRegs_length]; omega, by simp, by simp, by simp [bootMeas]⟩, ⟨false, false, false, false, fun k => ?_⟩, ⟨false, false, false, false, fun k => ?_⟩⟩
  · rw [hI8, decide_eq_false h7, cond_false, impl_NewMachine_eq N hTm, List.length_replicate, decide_eq_true (show (1 : Int) < ((16 : Nat) : Int) by omega), cond_true, elemK_some hx1, show Nat.blt 1 16 = true from rfl, cond_true, hl2, decide_eq_true (show (2 : Int) < ((16 : Nat) : Int) by omega), cond_true, elemK_some hx2, show Nat.blt 2 16 = true from rfl, cond_true, dec_nn, decide_eq_true (show (((f - 1) * 256 : Nat) : Int) ≤ (T.size : Int) by omega), decide_eq_true (show (T.size : Int) ≤ (T.size : Int) by omega), Bool.and_self, Bool.and_self, cond_true, Int.toNat_natCast, Int.toNat_natCast, impl_ymeasure_boot N (by rw [ByteArray.size_extract]; omega) (by omega) hN]
    rfl
  · rw [hS8, decide_eq_false h7, cond_false, spec_NewMachine_eq N hTm, s8, List.length_replicate, decide_eq_true (show (1 : Int) < ((16 : Nat) : Int) by omega), cond_true, elemK_some hx1, show Nat.blt 1 16 = true from rfl, cond_true, hl2, decide_eq_true (show (2 : Int) < ((16 : Nat) : Int) by omega), cond_true, elemK_some hx2, show Nat.blt 2 16 = true from rfl, cond_true, spec_l06Frame_eq N (by omega) (by omega), spec_Measure_boot N (by rw [ByteArray.size_extract]; omega) (by omega) hN, hex]
    rfl


theorem laws_eqInt64S_rr_eq {l m : List Int} {b b1 : Bool} (hl : l.length ≤ 2 ^ 40) (hN : 2 ^ 40 < N) (k : Bool → Option R) : g_laws_eqInt64S_rr N b b1 l m k = k (decide (l = m)) := by
  unfold g_laws_eqInt64S_rr
  by_cases h : l.length = m.length
  · rw [show ((l.length : Int) != (m.length : Int)) = false by simp [h]]
    unfold c_laws_eqInt64S_rr_0
    refine (eql (l_laws_eqInt64S_rr_0 N b b1 l m (k false) (k true)) l m h (k false) (k true) (fun f i x y hi hx hy => ?_) (fun f => ?_) (by omega)).trans ?_
    · simp only [l_laws_eqInt64S_rr_0, s_laws_eqInt64S_rr_0, dec_lt hi, dec_nn, Int.toNat_natCast, elemK_some hx, elemK_some hy, dec_lt (show i < m.length by omega), wrap_next hi (by omega), Bool.and_true, cond_true, bne_dec]
    · simp only [l_laws_eqInt64S_rr_0, s_laws_eqInt64S_rr_0, dec_nlt, cond_false]
    · cases decide (l = m) <;> rfl
  · rw [show ((l.length : Int) != (m.length : Int)) = true by simp; omega]
    rw [decide_eq_false (fun e => h (by rw [e]))]
    rfl

theorem eqMachine_self_w {pc md c2 c3 c4 c5 : Int} {b b1 b2 b3 b4 d d1 d2 d3 d4 : Bool} {m : ByteArray} {L1 L2 L3 : List Int} {M1 M2 : List PortValue} (h1 : L1.length ≤ 2 ^ 40) (h2 : L2.length ≤ 2 ^ 40) (h3 : L3.length ≤ 2 ^ 40) (h4 : M1.length ≤ 2 ^ 40) (h5 : M2.length ≤ 2 ^ 40) (hN : 2 ^ 40 < N) (k : Bool → Option R) :
    g_laws_eqMachine_wwwwwwwwww N pc b md b1 b2 m c2 c3 c4 b3 b4 c5 pc d md d1 d2 m c2 c3 c4 d3 d4 c5 L1 L2 L3 M1 M2 L1 L2 L3 M1 M2 k = k true := by
  unfold g_laws_eqMachine_wwwwwwwwww
  rw [bne_self_eq_false, cond_false, laws_eqInt64S_ww_eq N h1 hN, decide_eq_true rfl, Bool.not_true, cond_false, bne_self_eq_false, cond_false, laws_eqInt64S_ww_eq N h2 hN, decide_eq_true rfl, Bool.not_true, cond_false, laws_eqInt64S_ww_eq N h3 hN, decide_eq_true rfl, Bool.not_true, cond_false, decide_eq_true rfl, Bool.not_true, cond_false,
    bne_self_eq_false, cond_false, bne_self_eq_false, cond_false, bne_self_eq_false, cond_false, laws_eqPortValueS_ww_eq N h4 hN, decide_eq_true rfl, Bool.not_true, cond_false, laws_eqPortValueS_ww_eq N h5 hN, decide_eq_true rfl, Bool.not_true, cond_false, bne_self_eq_false, cond_false]

theorem eqMachine_self_r {pc md c2 c3 c4 c5 : Int} {b b1 b2 b3 b4 d d1 d2 d3 d4 : Bool} {m : ByteArray} {L1 L2 L3 : List Int} {M1 M2 : List PortValue} (h1 : L1.length ≤ 2 ^ 40) (h2 : L2.length ≤ 2 ^ 40) (h3 : L3.length ≤ 2 ^ 40) (h4 : M1.length ≤ 2 ^ 40) (h5 : M2.length ≤ 2 ^ 40) (hN : 2 ^ 40 < N) (k : Bool → Option R) :
    g_laws_eqMachine_rrrrrrrrrr N pc b md b1 b2 m c2 c3 c4 b3 b4 c5 pc d md d1 d2 m c2 c3 c4 d3 d4 c5 L1 L2 L3 M1 M2 L1 L2 L3 M1 M2 k = k true := by
  unfold g_laws_eqMachine_rrrrrrrrrr
  rw [bne_self_eq_false, cond_false, laws_eqInt64S_rr_eq N h1 hN, decide_eq_true rfl, Bool.not_true, cond_false, bne_self_eq_false, cond_false, laws_eqInt64S_rr_eq N h2 hN, decide_eq_true rfl, Bool.not_true, cond_false, laws_eqInt64S_rr_eq N h3 hN, decide_eq_true rfl, Bool.not_true, cond_false, decide_eq_true rfl, Bool.not_true, cond_false,
    bne_self_eq_false, cond_false, bne_self_eq_false, cond_false, bne_self_eq_false, cond_false, laws_eqPortValueS_rr_eq N h4 hN, decide_eq_true rfl, Bool.not_true, cond_false, laws_eqPortValueS_rr_eq N h5 hN, decide_eq_true rfl, Bool.not_true, cond_false, bne_self_eq_false, cond_false]

theorem eqBooted_self_w {c pc md : Int} {b1 b2 b3 b4 d1 d2 d3 d4 : Bool} {m : ByteArray} {L1 L2 L3 L4 : List Int} (h1 : L1.length ≤ 16) (h2 : L2.length ≤ 16) (h3 : L3.length ≤ 16) (h4 : L4.length ≤ 16) (hN : 2 ^ 40 < N) (k : Bool → Option R) :
    g_laws_eqBooted_wwwwwwwwwwww N c pc b1 md b2 b3 m 0 0 0 true true 0 b4 c pc d1 md d2 d3 m 0 0 0 true true 0 d4 L1 L2 L3 [] [] L4 L1 L2 L3 [] [] L4 k = k true := by
  unfold g_laws_eqBooted_wwwwwwwwwwww
  rw [bne_self_eq_false, cond_false, eqMachine_self_w N (by omega) (by omega) (by omega) (by simp) (by simp) hN, Bool.not_true, cond_false, laws_eqInt64S_ww_eq N (by omega) hN, decide_eq_true rfl, Bool.not_true, cond_false]

theorem eqBooted_self_r {c pc md : Int} {b1 b2 b3 b4 d1 d2 d3 d4 : Bool} {m : ByteArray} {L1 L2 L3 L4 : List Int} (h1 : L1.length ≤ 16) (h2 : L2.length ≤ 16) (h3 : L3.length ≤ 16) (h4 : L4.length ≤ 16) (hN : 2 ^ 40 < N) (k : Bool → Option R) :
    g_laws_eqBooted_rrrrrrrrrrrr N c pc b1 md b2 b3 m 0 0 0 true true 0 b4 c pc d1 md d2 d3 m 0 0 0 true true 0 d4 L1 L2 L3 [] [] L4 L1 L2 L3 [] [] L4 k = k true := by
  unfold g_laws_eqBooted_rrrrrrrrrrrr
  rw [bne_self_eq_false, cond_false, eqMachine_self_r N (by omega) (by omega) (by omega) (by simp) (by simp) hN, Bool.not_true, cond_false, laws_eqInt64S_rr_eq N (by omega) hN, decide_eq_true rfl, Bool.not_true, cond_false]

theorem markBooted_eq {c pc md : Int} {b1 b2 b3 b4 : Bool} {m : ByteArray} {L1 L2 L3 L4 : List Int} (h1 : L1.length ≤ 16) (h2 : L2.length ≤ 16) (h3 : L3.length ≤ 16) (h4 : L4.length ≤ 16) (hN : 2 ^ 40 < N) :
    ∃ (p : Int) (A B C D : List Int), 1 ≤ p ∧ (∀ K : Int → List Int → List Int → List Int → List PortValue → List PortValue → List Int → Option R, g_laws_markBooted_wwwwww N c pc b1 md b2 b3 m 0 0 0 true true 0 b4 1 L1 L2 L3 [] [] L4 K = K p A B C [] [] D) ∧ ∀ K : Int → Option R, g_laws_heldBooted_wwwwww N c pc b1 md b2 b3 m 0 0 0 true true 0 b4 1 A B C [] [] D K = K p := by
  have e : ∀ k : Int, rowsPortValue k 0 = [] := fun k => rfl
  refine ⟨1 + L1.length + L2.length + L3.length + L4.length, rowsInt64 1 L1.length, rowsInt64 (1 + L1.length) L2.length, rowsInt64 (1 + L1.length + L2.length) L3.length, rowsInt64 (1 + L1.length + L2.length + L3.length) L4.length, by omega, fun K => ?_, fun K => ?_⟩
  · unfold g_laws_markBooted_wwwwww g_laws_markMachine_wwwww
    have m0 : ∀ (k : Int) (b : Bool) (K : Int → List PortValue → Option R), 1 ≤ k → k ≤ 2 ^ 50 → g_laws_markPortValueS_w N b k [] K = K k [] := fun k b K h1 h2 => by
      have := laws_markPortValueS_w_eq N (l := []) (b := b) (k := k) (by simp) h1 h2 hN K
      rw [this]; simp [e]
    rw [laws_markInt64S_w_eq N (by omega) (by omega) (by omega) hN, Int.one_mul, laws_markInt64S_w_eq N (by omega) (by omega) (by omega) hN, Int.one_mul, laws_markInt64S_w_eq N (by omega) (by omega) (by omega) hN, Int.one_mul, m0 _ _ _ (by omega) (by omega), m0 _ _ _ (by omega) (by omega)]
    dsimp only
    rw [laws_markInt64S_w_eq N (by omega) (by omega) (by omega) hN, Int.one_mul]
  · unfold g_laws_heldBooted_wwwwww g_laws_heldMachine_wwwww
    have e0 : ∀ (k : Int) (b : Bool) (K : Int → Option R), 1 ≤ k → k ≤ 2 ^ 50 → g_laws_heldPortValueS_w N b k [] K = K k := fun k b K h1 h2 => by
      have := laws_heldPortValueS_w_eq N (n := 0) (b := b) (k := k) (by omega) h1 h2 hN K
      rw [e] at this
      rw [this]; simp
    rw [laws_heldInt64S_w_eq N (by omega) (by omega) (by omega) hN, Int.one_mul, decide_eq_false (by omega), cond_false, laws_heldInt64S_w_eq N (by omega) (by omega) (by omega) hN, Int.one_mul, decide_eq_false (by omega), cond_false, laws_heldInt64S_w_eq N (by omega) (by omega) (by omega) hN, Int.one_mul, decide_eq_false (by omega), cond_false,
      e0 _ _ _ (by omega) (by omega), decide_eq_false (by omega), cond_false, e0 _ _ _ (by omega) (by omega), decide_eq_false (by omega), cond_false]
    dsimp only
    rw [decide_eq_false (by omega), cond_false, laws_heldInt64S_w_eq N (by omega) (by omega) (by omega) hN, Int.one_mul, decide_eq_false (by omega), cond_false]

theorem law_Boot {s : ByteArray} {fr cp : Int} {b : Bool} {l : List Device} (hl : l.length ≤ maxLen) (hN : 2 ^ 40 < N) (k : Bool → Option R) : g_laws_FnExactBoot_r N s fr cp b l k = k true := by
  unfold g_laws_FnExactBoot_r g_laws_szBoard_r
  cases decide ((s.size : Int) > 1048576) with
  | true => rfl
  | false =>
  rw [cond_false, laws_szDeviceS_r_eq N hl]
  by_cases h : 1048576 < l.length
  · rw [decide_eq_true h]; rfl
  rw [decide_eq_false h, cond_false, decide_eq_false (by omega), cond_false]
  dsimp only
  rw [decide_eq_false (show ¬ (1048576 - (l.length : Int) < 0) by omega), cond_false]
  have hl : l.length ≤ 2 ^ 40 := by omega
  obtain ⟨c, pc, md, m, L1, L2, L3, L4, ⟨h1, h2, h3, h4⟩, ⟨b1, b2, b3, b4, hI⟩, ⟨d1, d2, d3, d4, hS⟩⟩ := Boot_same N (R := R) (s := s) (fr := fr) (cp := cp) (l := l) (b := false) hN
  obtain ⟨p, A, B, C, D, hp, hmk, hhd⟩ := markBooted_eq N (R := R) (c := c) (pc := pc) (md := md) (b1 := b1) (b2 := b2) (b3 := b3) (b4 := b4) (m := m) h1 h2 h3 h4 hN
  have ht : ∀ K : List Device → Option R, g_laws_toBoard_r N fr cp b l K = K l := fun K => by
    unfold g_laws_toBoard_r
    rw [laws_toDeviceS_r_eq N hl hN]
  have hpp : decide (p < 0) = false := decide_eq_false (by omega)
  have hmb : ∀ K : Int → List Device → Option R, g_laws_markBoard_w N fr cp false 1 l K = K (1 + 3 * (l.length : Int)) (rowsDevice 1 l.length) := fun K => by
    unfold g_laws_markBoard_w
    rw [laws_markDeviceS_w_eq N hl (by omega) (by omega) hN]
  have heb : ∀ K : Bool → Option R, g_laws_eqBoard_rr N fr cp false fr cp false l l K = K true := fun K => by
    unfold g_laws_eqBoard_rr
    rw [bne_self_eq_false, cond_false, bne_self_eq_false, cond_false, laws_eqDeviceS_rr_eq N hl hN, decide_eq_true rfl, Bool.not_true, cond_false]
  rw [ht, hS, ht, hI, eqBooted_self_w N h1 h2 h3 h4 hN, Bool.not_true, cond_false, ht, heb, Bool.not_true, cond_false, hmb, decide_eq_false (show ¬ (1 + 3 * (l.length : Int) < 0) by omega), cond_false, eqBooted_self_r N h1 h2 h3 h4 hN, oK_some_eq, Bool.not_true, cond_false, hmk, hhd, hpp, cond_false, bne_self_eq_false, cond_false, ht, hI, eqBooted_self_w N h1 h2 h3 h4 hN, Bool.not_true, cond_false, hhd, hpp, cond_false, bne_self_eq_false, cond_false]

end
end Go.Sa
