import Derived.Test.YtjimjkhpahegjaaW0
set_option linter.all false
namespace Go.Sa
open Go Go.Eng Go.Proofs
section
variable {R : Type} (N : Nat)

@[simp] theorem laws_toDevice_eq (a0 : Int) (a1 : Int) (a2 : Int) (k : Option R) : g_laws_toDevice N a0 a1 a2 k = k := rfl

theorem laws_toDeviceS_r_eq {l : List Device} {b : Bool} (hl : l.length ≤ 2 ^ 40) (hN : 2 ^ 40 < N) (k : List Device → Option R) : g_laws_toDeviceS_r N b l k = k l := by
  unfold g_laws_toDeviceS_r
  rw [Int.toNat_natCast, room (by omega) (by omega), dec_self]
  unfold c_laws_toDeviceS_r_0
  refine (copyl (l_laws_toDeviceS_r_0 N b false l (fun l4 => k l4)) l (fun x => x) k (fun f i ys x hi hy hx => ?_) (fun f ys hy => ?_) (by simp) (by omega)).trans (by rw [List.map_id'])
  · obtain ⟨y, hy1⟩ := nth_some (l := ys) (n := i) (by omega)
    simp only [l_laws_toDeviceS_r_0, s_laws_toDeviceS_r_0, laws_toDevice_eq, dec_lt hi, dec_nn, Int.toNat_natCast, elemK_some hx, elemK_some hy1, dec_lt (show i < ys.length by omega), blt_t (show i < ys.length by omega), wrap_next hi (by omega), Bool.and_true, cond_true]
  · simp only [l_laws_toDeviceS_r_0, s_laws_toDeviceS_r_0, dec_nlt, cond_false]

theorem laws_eqDevice_eq (x y : Device) (k : Bool → Option R) : g_laws_eqDevice N x.fKind x.fPort x.fLine y.fKind y.fPort y.fLine k = k (decide (x = y)) := by
  unfold g_laws_eqDevice
  by_cases h0 : x.fKind = y.fKind
  case neg =>
    rw [decide_eq_false (show ¬ x = y from fun e => h0 (by rw [e]))]
    simp only [bne_dec, beq_dec, h0, decide_false, Bool.not_false, cond_true]
  simp only [bne_dec, beq_dec, h0, decide_true, Bool.not_true, cond_false]
  by_cases h1 : x.fPort = y.fPort
  case neg =>
    rw [decide_eq_false (show ¬ x = y from fun e => h1 (by rw [e]))]
    simp only [bne_dec, beq_dec, h1, decide_false, Bool.not_false, cond_true]
  simp only [bne_dec, beq_dec, h1, decide_true, Bool.not_true, cond_false]
  by_cases h2 : x.fLine = y.fLine
  case neg =>
    rw [decide_eq_false (show ¬ x = y from fun e => h2 (by rw [e]))]
    simp only [bne_dec, beq_dec, h2, decide_false, Bool.not_false, cond_true]
  simp only [bne_dec, beq_dec, h2, decide_true, Bool.not_true, cond_false]
  rw [decide_eq_true (show x = y by cases x; cases y; simp_all)]

theorem laws_eqDeviceS_rr_eq {l m : List Device} {b b1 : Bool} (hl : l.length ≤ 2 ^ 40) (hN : 2 ^ 40 < N) (k : Bool → Option R) : g_laws_eqDeviceS_rr N b b1 l m k = k (decide (l = m)) := by
  unfold g_laws_eqDeviceS_rr
  by_cases h : l.length = m.length
  · rw [show ((l.length : Int) != (m.length : Int)) = false by simp [h]]
    unfold c_laws_eqDeviceS_rr_0
    refine (eql (l_laws_eqDeviceS_rr_0 N b b1 l m (k false) (k true)) l m h (k false) (k true) (fun f i x y hi hx hy => ?_) (fun f => ?_) (by omega)).trans ?_
    · simp only [l_laws_eqDeviceS_rr_0, s_laws_eqDeviceS_rr_0, dec_lt hi, dec_nn, Int.toNat_natCast, elemK_some hx, elemK_some hy, dec_lt (show i < m.length by omega), laws_eqDevice_eq, wrap_next hi (by omega), Bool.and_true, cond_true]
    · simp only [l_laws_eqDeviceS_rr_0, s_laws_eqDeviceS_rr_0, dec_nlt, cond_false]
    · cases decide (l = m) <;> rfl
  · rw [show ((l.length : Int) != (m.length : Int)) = true by simp; omega]
    rw [decide_eq_false (fun e => h (by rw [e]))]
    rfl

theorem laws_szDeviceS_r_eq {l : List Device} {b : Bool} (hl : l.length ≤ maxLen) (k : Int → Option R) : g_laws_szDeviceS_r N b 1048576 l k = k (cond (decide (1048576 < l.length)) (-1) (1048576 - (l.length : Int))) := by
  unfold g_laws_szDeviceS_r
  have hm : maxLen = 9223372036854775807 := rfl
  rw [w64 (by omega) (by omega)]
  by_cases h : 1048576 < l.length
  · rw [decide_eq_true h, decide_eq_true (by omega)]; rfl
  · rw [decide_eq_false h, decide_eq_false (by omega)]; rfl

@[simp] theorem impl_yin_eq (a lo hi : Int) (k : Bool → Option R) : g_impl_yin N a lo hi k = k (decide (a ≥ lo) && decide (a ≤ hi)) := by
  simp [g_impl_yin]

def dvB (x : Device) (p : Bool) : Bool :=
  !(decide (x.fKind ≥ 1) && decide (x.fKind ≤ 255)) || (!(decide (x.fPort ≥ 0) && decide (x.fPort ≤ 2047)) || (!(decide (x.fLine ≥ 0) && decide (x.fLine ≤ 6)) || p))

def dvBad (l : List Device) (i : Nat) : Bool :=
  match nth l i with
  | none => true
  | some x => dvB x (prevIs (fun y x => decide (y.fPort ≥ x.fPort)) l i x)

def boardFault (fr cp : Int) (l : List Device) : Int :=
  cond (!(decide (fr ≥ 2) && decide (fr ≤ 256)) || (!(decide (cp ≥ 1) && decide (cp ≤ 8)) || decide (l.length > 16))) 1 (cond ((List.range l.length).any (dvBad l)) 1 0)

theorem impl_BoardFault_eq {fr cp : Int} {l : List Device} {b : Bool} (hN : 2 ^ 40 < N) (k : Int → Option R) : g_impl_BoardFault_w N fr cp b l k = k (boardFault fr cp l) := by
  unfold g_impl_BoardFault_w boardFault
  have hg : decide ((l.length : Int) > 16) = decide (l.length > 16) := decide_eq_decide.2 (by omega)
  simp only [hg, impl_yin_eq, cond_somes, oK_some_eq, Bool.cond_true_left]
  by_cases hp : (!(decide (fr ≥ 2) && decide (fr ≤ 256)) || (!(decide (cp ≥ 1) && decide (cp ≤ 8)) || decide (l.length > 16))) = true
  · rw [hp]; rfl
  · rw [Bool.not_eq_true] at hp
    have hl : ¬ l.length > 16 := fun e => by rw [decide_eq_true e] at hp; simp at hp
    rw [hp]
    simp only [cond_false]
    unfold c_impl_BoardFault_w_0
    refine (srch (l_impl_BoardFault_w_0 N b l.length l fr cp b (k 1) (k 0)) l.length (dvBad l) (k 1) (k 0) (fun f i hi => ?_) (fun f => ?_) (by omega)).trans (cond_app _ k 1 0)
    · obtain ⟨x, hx⟩ := nth_some hi
      simp only [l_impl_BoardFault_w_0, s_impl_BoardFault_w_0, dec_lt hi, dec_nn, Int.toNat_natCast, elemK_some hx, wrap_next hi (by omega), Bool.and_true, cond_true, dvBad, hx]
      by_cases h0 : 0 < i
      · obtain ⟨y, hy⟩ := nth_some (l := l) (n := i - 1) (by omega)
        simp only [wrap_prev h0 (by omega), Int.toNat_natCast, elemK_some hy, prevIs, hy, dec_nn, dec_lt (show i - 1 < l.length by omega), decide_eq_true h0, decide_eq_true (show (i : Int) > 0 by omega), impl_yin_eq, Bool.and_true, cond_true, cond_somes, oK_some_eq, Bool.true_and]
        refine congrArg (fun c => cond c _ _) ?_
        rw [Bool.eq_iff_iff]
        simp [dvB]
      · have h00 : i = 0 := by omega
        subst h00
        simp only [prevIs, decide_eq_false (show ¬ (0 : Nat) < 0 by omega), decide_eq_false (show ¬ ((0 : Nat) : Int) > 0 by omega), impl_yin_eq, cond_somes, oK_some_eq, cond_false, Bool.false_and]
        refine congrArg (fun c => cond c _ _) ?_
        rw [Bool.eq_iff_iff]
        simp [dvB]
    · simp only [l_impl_BoardFault_w_0, s_impl_BoardFault_w_0, dec_nlt, cond_false]

theorem spec_BoardFault_eq {fr cp : Int} {l : List Device} {b : Bool} (hN : 2 ^ 40 < N) (k : Int → Option R) : g_spec_BoardFault_w N fr cp b l k = k (boardFault fr cp l) := by
  unfold g_spec_BoardFault_w boardFault
  have hg : decide ((l.length : Int) > 16) = decide (l.length > 16) := decide_eq_decide.2 (by omega)
  have hq : (decide (fr < 2) || (decide (fr > 256) || (decide (cp < 1) || (decide (cp > 8) || decide (l.length > 16))))) = (!(decide (fr ≥ 2) && decide (fr ≤ 256)) || (!(decide (cp ≥ 1) && decide (cp ≤ 8)) || decide (l.length > 16))) := by
    rw [Bool.eq_iff_iff]; simp; omega
  simp only [hg, cond_somes, oK_some_eq, Bool.cond_true_left, hq]
  by_cases hp : (!(decide (fr ≥ 2) && decide (fr ≤ 256)) || (!(decide (cp ≥ 1) && decide (cp ≤ 8)) || decide (l.length > 16))) = true
  · rw [hp]; rfl
  · rw [Bool.not_eq_true] at hp
    have hl : ¬ l.length > 16 := fun e => by rw [decide_eq_true e] at hp; simp at hp
    rw [hp]
    simp only [cond_false]
    unfold c_spec_BoardFault_w_0
    refine (srch (l_spec_BoardFault_w_0 N l fr cp b (k 1) (k 0)) l.length (dvBad l) (k 1) (k 0) (fun f i hi => ?_) (fun f => ?_) (by omega)).trans (cond_app _ k 1 0)
    · obtain ⟨x, hx⟩ := nth_some hi
      simp only [l_spec_BoardFault_w_0, s_spec_BoardFault_w_0, dec_lt hi, dec_nn, Int.toNat_natCast, elemK_some hx, wrap_next hi (by omega), Bool.and_true, cond_true, dvBad, hx]
      by_cases h0 : 0 < i
      · obtain ⟨y, hy⟩ := nth_some (l := l) (n := i - 1) (by omega)
        simp only [wrap_prev h0 (by omega), Int.toNat_natCast, elemK_some hy, prevIs, hy, dec_nn, dec_lt (show i - 1 < l.length by omega), decide_eq_true h0, decide_eq_true (show (i : Int) > 0 by omega), Bool.and_true, cond_true, cond_somes, oK_some_eq, Bool.true_and]
        refine congrArg (fun c => cond c _ _) ?_
        rw [Bool.eq_iff_iff]
        simp [dvB]
        omega
      · have h00 : i = 0 := by omega
        subst h00
        simp only [prevIs, decide_eq_false (show ¬ (0 : Nat) < 0 by omega), decide_eq_false (show ¬ ((0 : Nat) : Int) > 0 by omega), cond_somes, oK_some_eq, cond_false, Bool.false_and]
        refine congrArg (fun c => cond c _ _) ?_
        rw [Bool.eq_iff_iff]
        simp [dvB]
        omega
    · simp only [l_spec_BoardFault_w_0, s_spec_BoardFault_w_0, dec_nlt, cond_false]

theorem law_BoardFault {fr cp : Int} {l : List Device} {b : Bool} (hl : l.length ≤ maxLen) (hN : 2 ^ 40 < N) (k : Bool → Option R) : g_laws_FnExactBoardFault_r N fr cp b l k = k true := by
  unfold g_laws_FnExactBoardFault_r g_laws_szBoard_r
  rw [laws_szDeviceS_r_eq N hl]
  by_cases h : 1048576 < l.length
  · rw [decide_eq_true h]; rfl
  · rw [decide_eq_false h, cond_false, decide_eq_false (by omega)]
    have hl : l.length ≤ 2 ^ 40 := by omega
    simp only [cond_false, decide_eq_false (show ¬ (1048576 - (l.length : Int) < 0) by omega), g_laws_toBoard_r, laws_toDeviceS_r_eq N hl hN, spec_BoardFault_eq N hN, impl_BoardFault_eq N hN, g_laws_eqBoard_rr, laws_eqDeviceS_rr_eq N hl hN, bne_self_eq_false, decide_true, Bool.not_true, cond_false]

end
end Go.Sa
