import Derived.Test.YtjimjkhpahegjaaW0
set_option linter.all false
namespace Go.Sa
open Go Go.Eng Go.Proofs
section
variable {R : Type} (N : Nat)

@[simp] theorem laws_toVcpu_eq (a0 : Int) (a1 : Int) (a2 : Int) (a3 : Int) (a4 : Bool) (a5 : Int) (a6 : Int) (a7 : Int) (a8 : Int) (k : Option R) : g_laws_toVcpu N a0 a1 a2 a3 a4 a5 a6 a7 a8 k = k := rfl

theorem laws_toVcpuS_r_eq {l : List Vcpu} {b : Bool} (hl : l.length ≤ 2 ^ 40) (hN : 2 ^ 40 < N) (k : List Vcpu → Option R) : g_laws_toVcpuS_r N b l k = k l := by
  unfold g_laws_toVcpuS_r
  rw [Int.toNat_natCast, room (by omega) (by omega), dec_self]
  unfold c_laws_toVcpuS_r_0
  refine (copyl (l_laws_toVcpuS_r_0 N b false l (fun l4 => k l4)) l (fun x => x) k (fun f i ys x hi hy hx => ?_) (fun f ys hy => ?_) (by simp) (by omega)).trans (by rw [List.map_id'])
  · obtain ⟨y, hy1⟩ := nth_some (l := ys) (n := i) (by omega)
    simp only [l_laws_toVcpuS_r_0, s_laws_toVcpuS_r_0, laws_toVcpu_eq, dec_lt hi, dec_nn, Int.toNat_natCast, elemK_some hx, elemK_some hy1, dec_lt (show i < ys.length by omega), blt_t (show i < ys.length by omega), wrap_next hi (by omega), Bool.and_true, cond_true]
  · simp only [l_laws_toVcpuS_r_0, s_laws_toVcpuS_r_0, dec_nlt, cond_false]

theorem laws_eqVcpu_eq (x y : Vcpu) (k : Bool → Option R) : g_laws_eqVcpu N x.fGuest x.fWeight x.fCap x.fMask x.fAwake x.fCredit x.fUsed x.fRan x.fStolen y.fGuest y.fWeight y.fCap y.fMask y.fAwake y.fCredit y.fUsed y.fRan y.fStolen k = k (decide (x = y)) := by
  unfold g_laws_eqVcpu
  by_cases h0 : x.fGuest = y.fGuest
  case neg =>
    rw [decide_eq_false (show ¬ x = y from fun e => h0 (by rw [e]))]
    simp only [bne_dec, beq_dec, h0, decide_false, Bool.not_false, cond_true]
  simp only [bne_dec, beq_dec, h0, decide_true, Bool.not_true, cond_false]
  by_cases h1 : x.fWeight = y.fWeight
  case neg =>
    rw [decide_eq_false (show ¬ x = y from fun e => h1 (by rw [e]))]
    simp only [bne_dec, beq_dec, h1, decide_false, Bool.not_false, cond_true]
  simp only [bne_dec, beq_dec, h1, decide_true, Bool.not_true, cond_false]
  by_cases h2 : x.fCap = y.fCap
  case neg =>
    rw [decide_eq_false (show ¬ x = y from fun e => h2 (by rw [e]))]
    simp only [bne_dec, beq_dec, h2, decide_false, Bool.not_false, cond_true]
  simp only [bne_dec, beq_dec, h2, decide_true, Bool.not_true, cond_false]
  by_cases h3 : x.fMask = y.fMask
  case neg =>
    rw [decide_eq_false (show ¬ x = y from fun e => h3 (by rw [e]))]
    simp only [bne_dec, beq_dec, h3, decide_false, Bool.not_false, cond_true]
  simp only [bne_dec, beq_dec, h3, decide_true, Bool.not_true, cond_false]
  by_cases h4 : x.fAwake = y.fAwake
  case neg =>
    rw [decide_eq_false (show ¬ x = y from fun e => h4 (by rw [e]))]
    simp only [bne_dec, beq_dec, h4, decide_false, Bool.not_false, cond_true]
  simp only [bne_dec, beq_dec, h4, decide_true, Bool.not_true, cond_false]
  by_cases h5 : x.fCredit = y.fCredit
  case neg =>
    rw [decide_eq_false (show ¬ x = y from fun e => h5 (by rw [e]))]
    simp only [bne_dec, beq_dec, h5, decide_false, Bool.not_false, cond_true]
  simp only [bne_dec, beq_dec, h5, decide_true, Bool.not_true, cond_false]
  by_cases h6 : x.fUsed = y.fUsed
  case neg =>
    rw [decide_eq_false (show ¬ x = y from fun e => h6 (by rw [e]))]
    simp only [bne_dec, beq_dec, h6, decide_false, Bool.not_false, cond_true]
  simp only [bne_dec, beq_dec, h6, decide_true, Bool.not_true, cond_false]
  by_cases h7 : x.fRan = y.fRan
  case neg =>
    rw [decide_eq_false (show ¬ x = y from fun e => h7 (by rw [e]))]
    simp only [bne_dec, beq_dec, h7, decide_false, Bool.not_false, cond_true]
  simp only [bne_dec, beq_dec, h7, decide_true, Bool.not_true, cond_false]
  by_cases h8 : x.fStolen = y.fStolen
  case neg =>
    rw [decide_eq_false (show ¬ x = y from fun e => h8 (by rw [e]))]
    simp only [bne_dec, beq_dec, h8, decide_false, Bool.not_false, cond_true]
  simp only [bne_dec, beq_dec, h8, decide_true, Bool.not_true, cond_false]
  rw [decide_eq_true (show x = y by cases x; cases y; simp_all)]

theorem laws_eqVcpuS_ww_eq {l m : List Vcpu} {b b1 : Bool} (hl : l.length ≤ 2 ^ 40) (hN : 2 ^ 40 < N) (k : Bool → Option R) : g_laws_eqVcpuS_ww N b b1 l m k = k (decide (l = m)) := by
  unfold g_laws_eqVcpuS_ww
  by_cases h : l.length = m.length
  · rw [show ((l.length : Int) != (m.length : Int)) = false by simp [h]]
    unfold c_laws_eqVcpuS_ww_0
    refine (eql (l_laws_eqVcpuS_ww_0 N b b1 l m (k false) (k true)) l m h (k false) (k true) (fun f i x y hi hx hy => ?_) (fun f => ?_) (by omega)).trans ?_
    · simp only [l_laws_eqVcpuS_ww_0, s_laws_eqVcpuS_ww_0, dec_lt hi, dec_nn, Int.toNat_natCast, elemK_some hx, elemK_some hy, dec_lt (show i < m.length by omega), laws_eqVcpu_eq, wrap_next hi (by omega), Bool.and_true, cond_true]
    · simp only [l_laws_eqVcpuS_ww_0, s_laws_eqVcpuS_ww_0, dec_nlt, cond_false]
    · cases decide (l = m) <;> rfl
  · rw [show ((l.length : Int) != (m.length : Int)) = true by simp; omega]
    rw [decide_eq_false (fun e => h (by rw [e]))]
    rfl

theorem laws_szVcpuS_r_eq {l : List Vcpu} {b : Bool} (hl : l.length ≤ maxLen) (k : Int → Option R) : g_laws_szVcpuS_r N b 1048576 l k = k (cond (decide (1048576 < l.length)) (-1) (1048576 - (l.length : Int))) := by
  unfold g_laws_szVcpuS_r
  have hm : maxLen = 9223372036854775807 := rfl
  rw [w64 (by omega) (by omega)]
  by_cases h : 1048576 < l.length
  · rw [decide_eq_true h, decide_eq_true (by omega)]; rfl
  · rw [decide_eq_false h, decide_eq_false (by omega)]; rfl

@[simp] theorem impl_yin_eq (a lo hi : Int) (k : Bool → Option R) : g_impl_yin N a lo hi k = k (decide (a ≥ lo) && decide (a ≤ hi)) := by
  simp [g_impl_yin]

def vcB (m : Int) (x : Vcpu) : Bool :=
  !(decide (x.fGuest ≥ 0) && decide (x.fGuest ≤ 99)) || (!(decide (x.fWeight ≥ 1) && decide (x.fWeight ≤ 1000)) || (!(decide (x.fCap ≥ 0) && decide (x.fCap ≤ 10)) || (!(decide (x.fMask ≥ 1) && decide (x.fMask ≤ m - 1)) ||
    (!(decide (x.fCredit ≥ -1099511627776) && decide (x.fCredit ≤ 1099511627776)) || (!(decide (x.fUsed ≥ 0) && decide (x.fUsed ≤ 10)) || (!(decide (x.fRan ≥ 0) && decide (x.fRan ≤ 1099511627776)) || !(decide (x.fStolen ≥ 0) && decide (x.fStolen ≤ 1099511627776))))))))

def vcpusFault (n : Int) (l : List Vcpu) : Int :=
  cond (!(decide (n ≥ 1) && decide (n ≤ 8)) || decide (l.length > 16)) 1 (cond (l.any (vcB ((2 : Int) ^ (min n.toNat 64)))) 1 0)

theorem pow_small {n : Int} (h0 : 1 ≤ n) (h1 : n ≤ 8) : 2 ≤ (2 : Int) ^ (min n.toNat 64) ∧ (2 : Int) ^ (min n.toNat 64) ≤ 256 := by
  have : n = 1 ∨ n = 2 ∨ n = 3 ∨ n = 4 ∨ n = 5 ∨ n = 6 ∨ n = 7 ∨ n = 8 := by omega
  rcases this with rfl | rfl | rfl | rfl | rfl | rfl | rfl | rfl <;> decide

theorem impl_VcpusFault_eq {n : Int} {l : List Vcpu} {b : Bool} (hN : 2 ^ 40 < N) (k : Int → Option R) : g_impl_VcpusFault_w N b n l k = k (vcpusFault n l) := by
  unfold g_impl_VcpusFault_w vcpusFault
  have hg : decide ((l.length : Int) > 16) = decide (l.length > 16) := decide_eq_decide.2 (by omega)
  simp only [hg, impl_yin_eq, cond_somes, oK_some_eq, Bool.cond_true_left]
  by_cases hp : (!(decide (n ≥ 1) && decide (n ≤ 8)) || decide (l.length > 16)) = true
  · rw [hp]; rfl
  · rw [Bool.not_eq_true] at hp
    have hp2 : (1 ≤ n ∧ n ≤ 8) ∧ ¬ l.length > 16 := by simpa using hp
    rw [hp]
    simp only [cond_false]
    obtain ⟨hm1, hm2⟩ := pow_small hp2.1.1 hp2.1.2
    unfold c_impl_VcpusFault_w_0
    rw [srch (l_impl_VcpusFault_w_0 N n b l.length l (k 1) (k 0)) l.length (fun i => atD l i (vcB ((2 : Int) ^ (min n.toNat 64))) true) (k 1) (k 0) (fun f i hi => ?_) (fun f => ?_) (by omega), any_atD]
    · exact cond_app _ k 1 0
    · obtain ⟨x, hx⟩ := nth_some hi
      have e1 : IntKind.wrap .i64 (1 * (2 : Int) ^ (min n.toNat 64)) = (2 : Int) ^ (min n.toNat 64) := by rw [Int.one_mul, w64 (by omega) (by omega)]
      have e2 : IntKind.wrap .i64 ((2 : Int) ^ (min n.toNat 64) - 1) = (2 : Int) ^ (min n.toNat 64) - 1 := w64 (by omega) (by omega)
      simp only [l_impl_VcpusFault_w_0, s_impl_VcpusFault_w_0, dec_lt hi, dec_nn, Int.toNat_natCast, elemK_some hx, wrap_next hi (by omega), Bool.and_true, cond_true, atD_some hx, decide_eq_false (show ¬ n < 0 by omega), cond_false, impl_yin_eq, e1, e2, cond_somes, oK_some_eq, Bool.cond_true_left]
      rfl
    · simp only [l_impl_VcpusFault_w_0, s_impl_VcpusFault_w_0, dec_nlt, cond_false]

theorem spec_VcpusFault_eq {n : Int} {l : List Vcpu} {b : Bool} (hN : 2 ^ 40 < N) (k : Int → Option R) : g_spec_VcpusFault_w N b n l k = k (vcpusFault n l) := by
  unfold g_spec_VcpusFault_w vcpusFault
  have hg : decide ((l.length : Int) > 16) = decide (l.length > 16) := decide_eq_decide.2 (by omega)
  have hq : (decide (n < 1) || (decide (n > 8) || decide (l.length > 16))) = (!(decide (n ≥ 1) && decide (n ≤ 8)) || decide (l.length > 16)) := by
    rw [Bool.eq_iff_iff]; simp; omega
  simp only [hg, cond_somes, oK_some_eq, Bool.cond_true_left, hq]
  by_cases hp : (!(decide (n ≥ 1) && decide (n ≤ 8)) || decide (l.length > 16)) = true
  · rw [hp]; rfl
  · rw [Bool.not_eq_true] at hp
    have hp2 : (1 ≤ n ∧ n ≤ 8) ∧ ¬ l.length > 16 := by simpa using hp
    rw [hp]
    simp only [cond_false]
    obtain ⟨hm1, hm2⟩ := pow_small hp2.1.1 hp2.1.2
    unfold c_spec_VcpusFault_w_0
    rw [srch (l_spec_VcpusFault_w_0 N b n l (k 1) (k 0)) l.length (fun i => atD l i (vcB ((2 : Int) ^ (min n.toNat 64))) true) (k 1) (k 0) (fun f i hi => ?_) (fun f => ?_) (by omega), any_atD]
    · exact cond_app _ k 1 0
    · obtain ⟨x, hx⟩ := nth_some hi
      have e0 : IntKind.wrap .u64 n = n := wu64 (by omega) (by omega)
      have e1 : IntKind.wrap .i64 (1 * (2 : Int) ^ (min n.toNat 64)) = (2 : Int) ^ (min n.toNat 64) := by rw [Int.one_mul, w64 (by omega) (by omega)]
      simp only [l_spec_VcpusFault_w_0, s_spec_VcpusFault_w_0, dec_lt hi, dec_nn, Int.toNat_natCast, elemK_some hx, wrap_next hi (by omega), Bool.and_true, cond_true, atD_some hx, e0, decide_eq_false (show ¬ n < 0 by omega), cond_false, e1, cond_somes, oK_some_eq, Bool.cond_true_left]
      generalize (2 : Int) ^ (min n.toNat 64) = m at hm1 hm2
      generalize l_spec_VcpusFault_w_0 N b n l (k 1) (k 0) f _ = z
      have hx2 : vcB m x = ((decide (x.fGuest < 0) || (decide (x.fGuest > 99) || (decide (x.fWeight < 1) || (decide (x.fWeight > 1000) || (decide (x.fCap < 0) || (decide (x.fCap > 10) || (decide (x.fMask < 1) || decide (x.fMask ≥ m)))))))) ||
          (decide (x.fCredit < -1099511627776) || (decide (x.fCredit > 1099511627776) || (decide (x.fUsed < 0) || (decide (x.fUsed > 10) || (decide (x.fRan < 0) || (decide (x.fRan > 1099511627776) || (decide (x.fStolen < 0) || decide (x.fStolen > 1099511627776))))))))) := by
        rw [Bool.eq_iff_iff]; simp [vcB]; omega
      rw [hx2]
      generalize (decide (x.fGuest < 0) || _) = c1
      cases c1 <;> rfl
    · simp only [l_spec_VcpusFault_w_0, s_spec_VcpusFault_w_0, dec_nlt, cond_false]

theorem law_VcpusFault {n : Int} {l : List Vcpu} {b : Bool} (hl : l.length ≤ maxLen) (hN : 2 ^ 40 < N) (k : Bool → Option R) : g_laws_FnExactVcpusFault_r N b n l k = k true := by
  unfold g_laws_FnExactVcpusFault_r
  rw [laws_szVcpuS_r_eq N hl]
  by_cases h : 1048576 < l.length
  · rw [decide_eq_true h]; rfl
  · rw [decide_eq_false h, cond_false, decide_eq_false (by omega)]
    have hl : l.length ≤ 2 ^ 40 := by omega
    simp only [laws_toVcpuS_r_eq N hl hN, spec_VcpusFault_eq N hN, impl_VcpusFault_eq N hN, laws_eqVcpuS_ww_eq N hl hN, bne_self_eq_false, decide_true, Bool.not_true, cond_false]

end
end Go.Sa
