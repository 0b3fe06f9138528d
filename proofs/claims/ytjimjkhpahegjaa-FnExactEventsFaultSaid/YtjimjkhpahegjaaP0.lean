import Derived.Test.YtjimjkhpahegjaaW0
set_option linter.all false
namespace Go.Sa
open Go Go.Eng Go.Proofs
section
variable {R : Type} (N : Nat)

@[simp] theorem laws_toEvent_eq (a0 : Int) (a1 : Int) (a2 : Int) (a3 : Int) (k : Option R) : g_laws_toEvent N a0 a1 a2 a3 k = k := rfl

theorem laws_toEventS_r_eq {l : List Event} {b : Bool} (hl : l.length ≤ 2 ^ 40) (hN : 2 ^ 40 < N) (k : List Event → Option R) : g_laws_toEventS_r N b l k = k l := by
  unfold g_laws_toEventS_r
  rw [Int.toNat_natCast, room (by omega) (by omega), dec_self]
  unfold c_laws_toEventS_r_0
  refine (copyl (l_laws_toEventS_r_0 N b false l (fun l4 => k l4)) l (fun x => x) k (fun f i ys x hi hy hx => ?_) (fun f ys hy => ?_) (by simp) (by omega)).trans (by rw [List.map_id'])
  · obtain ⟨y, hy1⟩ := nth_some (l := ys) (n := i) (by omega)
    simp only [l_laws_toEventS_r_0, s_laws_toEventS_r_0, laws_toEvent_eq, dec_lt hi, dec_nn, Int.toNat_natCast, elemK_some hx, elemK_some hy1, dec_lt (show i < ys.length by omega), blt_t (show i < ys.length by omega), wrap_next hi (by omega), Bool.and_true, cond_true]
  · simp only [l_laws_toEventS_r_0, s_laws_toEventS_r_0, dec_nlt, cond_false]

theorem laws_eqEvent_eq (x y : Event) (k : Bool → Option R) : g_laws_eqEvent N x.fAt x.fKind x.fNum x.fValue y.fAt y.fKind y.fNum y.fValue k = k (decide (x = y)) := by
  unfold g_laws_eqEvent
  by_cases h0 : x.fAt = y.fAt
  case neg =>
    rw [decide_eq_false (show ¬ x = y from fun e => h0 (by rw [e]))]
    simp only [bne_dec, beq_dec, h0, decide_false, Bool.not_false, cond_true]
  simp only [bne_dec, beq_dec, h0, decide_true, Bool.not_true, cond_false]
  by_cases h1 : x.fKind = y.fKind
  case neg =>
    rw [decide_eq_false (show ¬ x = y from fun e => h1 (by rw [e]))]
    simp only [bne_dec, beq_dec, h1, decide_false, Bool.not_false, cond_true]
  simp only [bne_dec, beq_dec, h1, decide_true, Bool.not_true, cond_false]
  by_cases h2 : x.fNum = y.fNum
  case neg =>
    rw [decide_eq_false (show ¬ x = y from fun e => h2 (by rw [e]))]
    simp only [bne_dec, beq_dec, h2, decide_false, Bool.not_false, cond_true]
  simp only [bne_dec, beq_dec, h2, decide_true, Bool.not_true, cond_false]
  by_cases h3 : x.fValue = y.fValue
  case neg =>
    rw [decide_eq_false (show ¬ x = y from fun e => h3 (by rw [e]))]
    simp only [bne_dec, beq_dec, h3, decide_false, Bool.not_false, cond_true]
  simp only [bne_dec, beq_dec, h3, decide_true, Bool.not_true, cond_false]
  rw [decide_eq_true (show x = y by cases x; cases y; simp_all)]

theorem laws_eqEventS_ww_eq {l m : List Event} {b b1 : Bool} (hl : l.length ≤ 2 ^ 40) (hN : 2 ^ 40 < N) (k : Bool → Option R) : g_laws_eqEventS_ww N b b1 l m k = k (decide (l = m)) := by
  unfold g_laws_eqEventS_ww
  by_cases h : l.length = m.length
  · rw [show ((l.length : Int) != (m.length : Int)) = false by simp [h]]
    unfold c_laws_eqEventS_ww_0
    refine (eql (l_laws_eqEventS_ww_0 N b b1 l m (k false) (k true)) l m h (k false) (k true) (fun f i x y hi hx hy => ?_) (fun f => ?_) (by omega)).trans ?_
    · simp only [l_laws_eqEventS_ww_0, s_laws_eqEventS_ww_0, dec_lt hi, dec_nn, Int.toNat_natCast, elemK_some hx, elemK_some hy, dec_lt (show i < m.length by omega), laws_eqEvent_eq, wrap_next hi (by omega), Bool.and_true, cond_true]
    · simp only [l_laws_eqEventS_ww_0, s_laws_eqEventS_ww_0, dec_nlt, cond_false]
    · cases decide (l = m) <;> rfl
  · rw [show ((l.length : Int) != (m.length : Int)) = true by simp; omega]
    rw [decide_eq_false (fun e => h (by rw [e]))]
    rfl

theorem laws_szEventS_r_eq {l : List Event} {b : Bool} (hl : l.length ≤ maxLen) (k : Int → Option R) : g_laws_szEventS_r N b 1048576 l k = k (cond (decide (1048576 < l.length)) (-1) (1048576 - (l.length : Int))) := by
  unfold g_laws_szEventS_r
  have hm : maxLen = 9223372036854775807 := rfl
  rw [w64 (by omega) (by omega)]
  by_cases h : 1048576 < l.length
  · rw [decide_eq_true h, decide_eq_true (by omega)]; rfl
  · rw [decide_eq_false h, decide_eq_false (by omega)]; rfl

@[simp] theorem impl_yin_eq (a lo hi : Int) (k : Bool → Option R) : g_impl_yin N a lo hi k = k (decide (a ≥ lo) && decide (a ≤ hi)) := by
  simp [g_impl_yin]

@[simp] theorem impl_yisWord_eq (a : Int) (k : Bool → Option R) : g_impl_yisWord N a k = k (decide (a ≥ 0) && decide (a < 4294967296)) := by
  simp [g_impl_yisWord]

@[simp] theorem spec_l01IsWord_eq (a : Int) (k : Bool → Option R) : g_spec_l01IsWord N a k = k (decide (a ≥ 0) && decide (a < 4294967296)) := by
  simp [g_spec_l01IsWord]


/-- An event that is refused at its place; 'p': the one ahead of it is later. -/
def evB (x : Event) (p : Bool) : Bool :=
  !((x.fKind == 1 && (decide (x.fNum ≥ 0) && decide (x.fNum ≤ 6) && x.fValue == 0)) || (x.fKind == 2 && (decide (x.fNum ≥ 0) && decide (x.fNum ≤ 2047) && (decide (x.fValue ≥ 0) && decide (x.fValue < 4294967296))))) ||
      (!(decide (x.fAt ≥ 0) && decide (x.fAt ≤ 1099511627776)) || p)

def evBad (l : List Event) (i : Nat) : Bool :=
  match nth l i with
  | none => true
  | some x => evB x (prevIs (fun y x => decide (y.fAt > x.fAt)) l i x)

def evFault (l : List Event) : Int := cond (decide (l.length > 200)) 1 (cond ((List.range l.length).any (evBad l)) 1 0)

theorem impl_EventsFault_eq {l : List Event} {b : Bool} (hN : 2 ^ 40 < N) (k : Int → Option R) : g_impl_EventsFault_w N b l k = k (evFault l) := by
  unfold g_impl_EventsFault_w evFault
  have hg : decide ((l.length : Int) > 200) = decide (l.length > 200) := decide_eq_decide.2 (by omega)
  rw [hg]
  by_cases hl : l.length > 200
  · rw [decide_eq_true hl]; rfl
  · rw [decide_eq_false hl]
    simp only [cond_false]
    unfold c_impl_EventsFault_w_0
    refine (srch (l_impl_EventsFault_w_0 N b b l.length l (k 1) (k 0)) l.length (evBad l) (k 1) (k 0) (fun f i hi => ?_) (fun f => ?_) (by omega)).trans (cond_app _ k 1 0)
    · obtain ⟨x, hx⟩ := nth_some hi
      simp only [l_impl_EventsFault_w_0, s_impl_EventsFault_w_0, dec_lt hi, dec_nn, Int.toNat_natCast, elemK_some hx, wrap_next hi (by omega), Bool.and_true, cond_true, evBad, hx]
      by_cases h0 : 0 < i
      · obtain ⟨y, hy⟩ := nth_some (l := l) (n := i - 1) (by omega)
        simp only [wrap_prev h0 (by omega), Int.toNat_natCast, elemK_some hy, prevIs, hy, dec_nn, dec_lt (show i - 1 < l.length by omega), decide_eq_true h0, decide_eq_true (show (i : Int) > 0 by omega), impl_yin_eq, impl_yisWord_eq, Bool.and_true, cond_true, cond_somes, oK_some_eq, Bool.true_and]
        refine congrArg (fun c => cond c _ _) ?_
        rw [Bool.eq_iff_iff]
        simp [evB]
        split <;> omega
      · have h00 : i = 0 := by omega
        subst h00
        simp only [prevIs, decide_eq_false (show ¬ (0 : Nat) < 0 by omega), decide_eq_false (show ¬ ((0 : Nat) : Int) > 0 by omega), impl_yin_eq, impl_yisWord_eq, cond_somes, oK_some_eq, cond_false, Bool.false_and]
        refine congrArg (fun c => cond c _ _) ?_
        rw [Bool.eq_iff_iff]
        simp [evB]
        split <;> omega
    · simp only [l_impl_EventsFault_w_0, s_impl_EventsFault_w_0, dec_nlt, cond_false]

theorem spec_EventsFault_eq {l : List Event} {b : Bool} (hN : 2 ^ 40 < N) (k : Int → Option R) : g_spec_EventsFault_w N b l k = k (evFault l) := by
  unfold g_spec_EventsFault_w evFault
  have hg : decide ((l.length : Int) > 200) = decide (l.length > 200) := decide_eq_decide.2 (by omega)
  rw [hg]
  by_cases hl : l.length > 200
  · rw [decide_eq_true hl]; rfl
  · rw [decide_eq_false hl]
    simp only [cond_false]
    unfold c_spec_EventsFault_w_0
    refine (srch (l_spec_EventsFault_w_0 N b l (k 1) (k 0)) l.length (evBad l) (k 1) (k 0) (fun f i hi => ?_) (fun f => ?_) (by omega)).trans (cond_app _ k 1 0)
    · obtain ⟨x, hx⟩ := nth_some hi
      simp only [l_spec_EventsFault_w_0, s_spec_EventsFault_w_0, dec_lt hi, dec_nn, Int.toNat_natCast, elemK_some hx, wrap_next hi (by omega), Bool.and_true, cond_true, evBad, hx]
      by_cases h0 : 0 < i
      · obtain ⟨y, hy⟩ := nth_some (l := l) (n := i - 1) (by omega)
        simp only [wrap_prev h0 (by omega), Int.toNat_natCast, elemK_some hy, prevIs, hy, dec_nn, dec_lt (show i - 1 < l.length by omega), decide_eq_true h0, decide_eq_true (show (i : Int) > 0 by omega), spec_l01IsWord_eq, Bool.and_true, cond_true, cond_somes, oK_some_eq, Bool.true_and]
        generalize l_spec_EventsFault_w_0 N b l (k 1) (k 0) f _ = z
        simp only [Bool.cond_eq_ite, evB]
        repeat' split
        all_goals first | rfl | (exfalso; simp_all <;> omega)
      · have h00 : i = 0 := by omega
        subst h00
        simp only [prevIs, decide_eq_false (show ¬ (0 : Nat) < 0 by omega), decide_eq_false (show ¬ ((0 : Nat) : Int) > 0 by omega), spec_l01IsWord_eq, cond_somes, oK_some_eq, cond_false, Bool.false_and]
        generalize l_spec_EventsFault_w_0 N b l (k 1) (k 0) f _ = z
        simp only [Bool.cond_eq_ite, evB]
        repeat' split
        all_goals first | rfl | (exfalso; simp_all <;> omega)
    · simp only [l_spec_EventsFault_w_0, s_spec_EventsFault_w_0, dec_nlt, cond_false]

theorem law_EventsFault {l : List Event} {b : Bool} (hl : l.length ≤ maxLen) (hN : 2 ^ 40 < N) (k : Bool → Option R) : g_laws_FnExactEventsFault_r N b l k = k true := by
  unfold g_laws_FnExactEventsFault_r
  rw [laws_szEventS_r_eq N hl]
  by_cases h : 1048576 < l.length
  · rw [decide_eq_true h]; rfl
  · rw [decide_eq_false h, cond_false, decide_eq_false (by omega)]
    have hl : l.length ≤ 2 ^ 40 := by omega
    simp only [laws_toEventS_r_eq N hl hN, spec_EventsFault_eq N hN, impl_EventsFault_eq N hN, laws_eqEventS_ww_eq N hl hN, bne_self_eq_false, decide_true, Bool.not_true, cond_false]
end
end Go.Sa
