import Derived.Test.YtjimjkhpahegjaaW0
set_option linter.all false
namespace Go.Sa
open Go Go.Eng Go.Proofs
section
variable {R : Type} (N : Nat)

@[simp] theorem laws_toRtTask_eq (a0 : Int) (a1 : Int) (a2 : Int) (k : Option R) : g_laws_toRtTask N a0 a1 a2 k = k := rfl

theorem laws_toRtTaskS_r_eq {l : List RtTask} {b : Bool} (hl : l.length ≤ 2 ^ 40) (hN : 2 ^ 40 < N) (k : List RtTask → Option R) : g_laws_toRtTaskS_r N b l k = k l := by
  unfold g_laws_toRtTaskS_r
  rw [Int.toNat_natCast, room (by omega) (by omega), dec_self]
  unfold c_laws_toRtTaskS_r_0
  refine (copyl (l_laws_toRtTaskS_r_0 N b false l (fun l4 => k l4)) l (fun x => x) k (fun f i ys x hi hy hx => ?_) (fun f ys hy => ?_) (by simp) (by omega)).trans (by rw [List.map_id'])
  · obtain ⟨y, hy1⟩ := nth_some (l := ys) (n := i) (by omega)
    simp only [l_laws_toRtTaskS_r_0, s_laws_toRtTaskS_r_0, laws_toRtTask_eq, dec_lt hi, dec_nn, Int.toNat_natCast, elemK_some hx, elemK_some hy1, dec_lt (show i < ys.length by omega), blt_t (show i < ys.length by omega), wrap_next hi (by omega), Bool.and_true, cond_true]
  · simp only [l_laws_toRtTaskS_r_0, s_laws_toRtTaskS_r_0, dec_nlt, cond_false]

theorem laws_eqRtTask_eq (x y : RtTask) (k : Bool → Option R) : g_laws_eqRtTask N x.fStart x.fPeriod x.fBudget y.fStart y.fPeriod y.fBudget k = k (decide (x = y)) := by
  unfold g_laws_eqRtTask
  by_cases h0 : x.fStart = y.fStart
  case neg =>
    rw [decide_eq_false (show ¬ x = y from fun e => h0 (by rw [e]))]
    simp only [bne_dec, beq_dec, h0, decide_false, Bool.not_false, cond_true]
  simp only [bne_dec, beq_dec, h0, decide_true, Bool.not_true, cond_false]
  by_cases h1 : x.fPeriod = y.fPeriod
  case neg =>
    rw [decide_eq_false (show ¬ x = y from fun e => h1 (by rw [e]))]
    simp only [bne_dec, beq_dec, h1, decide_false, Bool.not_false, cond_true]
  simp only [bne_dec, beq_dec, h1, decide_true, Bool.not_true, cond_false]
  by_cases h2 : x.fBudget = y.fBudget
  case neg =>
    rw [decide_eq_false (show ¬ x = y from fun e => h2 (by rw [e]))]
    simp only [bne_dec, beq_dec, h2, decide_false, Bool.not_false, cond_true]
  simp only [bne_dec, beq_dec, h2, decide_true, Bool.not_true, cond_false]
  rw [decide_eq_true (show x = y by cases x; cases y; simp_all)]

theorem laws_eqRtTaskS_ww_eq {l m : List RtTask} {b b1 : Bool} (hl : l.length ≤ 2 ^ 40) (hN : 2 ^ 40 < N) (k : Bool → Option R) : g_laws_eqRtTaskS_ww N b b1 l m k = k (decide (l = m)) := by
  unfold g_laws_eqRtTaskS_ww
  by_cases h : l.length = m.length
  · rw [show ((l.length : Int) != (m.length : Int)) = false by simp [h]]
    unfold c_laws_eqRtTaskS_ww_0
    refine (eql (l_laws_eqRtTaskS_ww_0 N b b1 l m (k false) (k true)) l m h (k false) (k true) (fun f i x y hi hx hy => ?_) (fun f => ?_) (by omega)).trans ?_
    · simp only [l_laws_eqRtTaskS_ww_0, s_laws_eqRtTaskS_ww_0, dec_lt hi, dec_nn, Int.toNat_natCast, elemK_some hx, elemK_some hy, dec_lt (show i < m.length by omega), laws_eqRtTask_eq, wrap_next hi (by omega), Bool.and_true, cond_true]
    · simp only [l_laws_eqRtTaskS_ww_0, s_laws_eqRtTaskS_ww_0, dec_nlt, cond_false]
    · cases decide (l = m) <;> rfl
  · rw [show ((l.length : Int) != (m.length : Int)) = true by simp; omega]
    rw [decide_eq_false (fun e => h (by rw [e]))]
    rfl

theorem laws_szRtTaskS_r_eq {l : List RtTask} {b : Bool} (hl : l.length ≤ maxLen) (k : Int → Option R) : g_laws_szRtTaskS_r N b 1048576 l k = k (cond (decide (1048576 < l.length)) (-1) (1048576 - (l.length : Int))) := by
  unfold g_laws_szRtTaskS_r
  have hm : maxLen = 9223372036854775807 := rfl
  rw [w64 (by omega) (by omega)]
  by_cases h : 1048576 < l.length
  · rw [decide_eq_true h, decide_eq_true (by omega)]; rfl
  · rw [decide_eq_false h, decide_eq_false (by omega)]; rfl

@[simp] theorem impl_yin_eq (a lo hi : Int) (k : Bool → Option R) : g_impl_yin N a lo hi k = k (decide (a ≥ lo) && decide (a ≤ hi)) := by
  simp [g_impl_yin]

def taskBad (x : RtTask) : Bool := !(decide (x.fStart ≥ 0) && decide (x.fStart ≤ 100)) || (!(decide (x.fPeriod ≥ 1) && decide (x.fPeriod ≤ 40)) || !(decide (x.fBudget ≥ 1) && decide (x.fBudget ≤ x.fPeriod)))

def tasksOk (l : List RtTask) : Bool := decide (l.length ≤ 8) && !(l.any taskBad)

theorem impl_ytasksOk_1_eq (x : RtTask) (k : Bool → Option R) : g_impl_ytasksOk_1 N x.fStart x.fPeriod x.fBudget k = k (taskBad x) := by
  simp only [g_impl_ytasksOk_1, impl_yin_eq, cond_somes, oK_some_eq, Bool.cond_true_left]
  rfl

theorem indexFunc_task_eq {l : List RtTask} {b : Bool} (hl : l.length ≤ 2 ^ 40) (hN : 2 ^ 40 < N) (k : Int → Option R) : g_slices_IndexFunc_RtTask_Fimpl_ytasksOk_1_r N b l k = k (fstAt l.length (fun i => atD l i taskBad true)) := by
  unfold g_slices_IndexFunc_RtTask_Fimpl_ytasksOk_1_r c_slices_IndexFunc_RtTask_Fimpl_ytasksOk_1_r_0
  rw [srchI (l_slices_IndexFunc_RtTask_Fimpl_ytasksOk_1_r_0 N b l.length l (fun n3 => k n3) (k (-1))) l.length (fun i => atD l i taskBad true) (fun n3 => k n3) (k (-1)) (fun f i hi => ?_) (fun f => ?_) (by omega)]
  · unfold fstAt
    split <;> rfl
  · obtain ⟨x, hx⟩ := nth_some hi
    simp only [l_slices_IndexFunc_RtTask_Fimpl_ytasksOk_1_r_0, s_slices_IndexFunc_RtTask_Fimpl_ytasksOk_1_r_0, dec_lt hi, dec_nn, Int.toNat_natCast, elemK_some hx, wrap_next hi (by omega), Bool.and_true, cond_true, atD_some hx, impl_ytasksOk_1_eq]
  · simp only [l_slices_IndexFunc_RtTask_Fimpl_ytasksOk_1_r_0, s_slices_IndexFunc_RtTask_Fimpl_ytasksOk_1_r_0, dec_nlt, cond_false]

theorem impl_ytasksOk_w_eq {l : List RtTask} {b : Bool} (hN : 2 ^ 40 < N) (k : Bool → Option R) : g_impl_ytasksOk_w N b l k = k (tasksOk l) := by
  unfold g_impl_ytasksOk_w tasksOk g_slices_ContainsFunc_RtTask_Fimpl_ytasksOk_1_r
  have hg : decide ((l.length : Int) ≤ 8) = decide (l.length ≤ 8) := decide_eq_decide.2 (by omega)
  rw [hg]
  by_cases h : l.length ≤ 8
  · rw [decide_eq_true h, indexFunc_task_eq N (by omega) hN]
    simp only [fstAt_nonneg, any_atD, cond_true, oK_some_eq, Bool.true_and]
  · rw [decide_eq_false h]; rfl

theorem spec_l18Tasks_w_eq {l : List RtTask} {b : Bool} (hN : 2 ^ 40 < N) (k : Bool → Option R) : g_spec_l18Tasks_w N b l k = k (tasksOk l) := by
  unfold g_spec_l18Tasks_w tasksOk
  have hg : decide ((l.length : Int) > 8) = !decide (l.length ≤ 8) := by rw [Bool.eq_iff_iff]; simp; omega
  rw [hg]
  by_cases h : l.length ≤ 8
  · rw [decide_eq_true h]
    simp only [Bool.not_true, cond_false, Bool.true_and]
    unfold c_spec_l18Tasks_w_0
    rw [srch (l_spec_l18Tasks_w_0 N b l (k false) (k true)) l.length (fun i => atD l i taskBad true) (k false) (k true) (fun f i hi => ?_) (fun f => ?_) (by omega), any_atD]
    · cases l.any taskBad <;> rfl
    · obtain ⟨x, hx⟩ := nth_some hi
      simp only [l_spec_l18Tasks_w_0, s_spec_l18Tasks_w_0, dec_lt hi, dec_nn, Int.toNat_natCast, elemK_some hx, wrap_next hi (by omega), Bool.and_true, cond_true, atD_some hx, cond_somes, oK_some_eq, Bool.cond_true_left]
      refine congrArg (fun c => cond c _ _) ?_
      rw [Bool.eq_iff_iff]
      simp [taskBad]
      omega
    · simp only [l_spec_l18Tasks_w_0, s_spec_l18Tasks_w_0, dec_nlt, cond_false]
  · rw [decide_eq_false h]; rfl

/-- What a task must be. -/
theorem task_ok {l : List RtTask} (h : tasksOk l = true) : l.length ≤ 8 ∧ ∀ i x, nth l i = some x → (1 ≤ x.fPeriod ∧ x.fPeriod ≤ 40) ∧ 1 ≤ x.fBudget ∧ x.fBudget ≤ x.fPeriod := by
  unfold tasksOk at h
  simp only [Bool.and_eq_true, decide_eq_true_eq, Bool.not_eq_true', List.any_eq_false] at h
  refine ⟨h.1, fun i x hx => ?_⟩
  have hm : x ∈ l := by rw [nth_eq] at hx; exact List.mem_of_getElem? hx
  have := h.2 x hm
  simp [taskBad] at this
  omega

def periods (l : List RtTask) : Int := l.foldl (fun s x => s * x.fPeriod) 1

def shares (a : Int) (l : List RtTask) : Int := l.foldl (fun s x => s + a.tdiv x.fPeriod * x.fBudget) 0

theorem share_le {a t b : Int} (ha : 0 ≤ a) (ht : 1 ≤ t) (hb : 1 ≤ b) (hbt : b ≤ t) : 0 ≤ a.tdiv t ∧ a.tdiv t ≤ a ∧ 0 ≤ a.tdiv t * b ∧ a.tdiv t * b ≤ a := by
  rw [Int.tdiv_eq_ediv_of_nonneg ha]
  have h0 : 0 ≤ a / t := Int.ediv_nonneg ha (by omega)
  have h1 : a / t * t ≤ a := Int.ediv_mul_le a (by omega)
  have h2 : a / t * b ≤ a / t * t := Int.mul_le_mul_of_nonneg_left hbt h0
  have h3 : a / t * 1 ≤ a / t * b := Int.mul_le_mul_of_nonneg_left hb h0
  omega

theorem periods_loop {l : List RtTask} {b b2 : Bool} (h : tasksOk l = true) (hN : 2 ^ 40 < N) (k : Int → Option R) : c_impl_Admit_w_0 N b b2 l.length l 1 0 k = k (periods l) ∧ 1 ≤ periods l ∧ periods l ≤ 6553600000000 := by
  obtain ⟨hl, hx⟩ := task_ok h
  unfold c_impl_Admit_w_0
  have hb : ∀ i : Nat, i ≤ 8 → (40 : Int) ^ i ≤ 6553600000000 := fun i hi => by
    have : i = 0 ∨ i = 1 ∨ i = 2 ∨ i = 3 ∨ i = 4 ∨ i = 5 ∨ i = 6 ∨ i = 7 ∨ i = 8 := by omega
    rcases this with rfl | rfl | rfl | rfl | rfl | rfl | rfl | rfl | rfl <;> decide
  have := fold (fun f i s => l_impl_Admit_w_0 N b b2 l.length l k f s i) l.length (fun i s => atD l i (fun x => s * x.fPeriod) s) (fun i s => 1 ≤ s ∧ s ≤ 40 ^ i) k (fun f i s hi hs => ?_) (fun f s hs => ?_) (s := 1) (by simp) (f := N) (by omega)
  · rw [foldl_atD l (fun s x => s * x.fPeriod) 1] at this
    exact ⟨this.1, this.2.1, Int.le_trans this.2.2 (hb _ hl)⟩
  · obtain ⟨x, hxi⟩ := nth_some hi
    have hxx := hx i x hxi
    have h1 : s * x.fPeriod ≤ 40 ^ i * 40 := Int.mul_le_mul hs.2 hxx.1.2 (by omega) (by have := hs.1; have := hs.2; omega)
    have h2 : s * 1 ≤ s * x.fPeriod := Int.mul_le_mul_of_nonneg_left hxx.1.1 (by omega)
    have h3 := hb (i + 1) (by omega)
    rw [Int.pow_succ] at h3
    simp only [l_impl_Admit_w_0, s_impl_Admit_w_0, dec_lt hi, dec_nn, Int.toNat_natCast, elemK_some hxi, wrap_next hi (by omega), Bool.and_true, cond_true, atD_some hxi, w64 (show -9223372036854775808 ≤ s * x.fPeriod by omega) (show s * x.fPeriod < 9223372036854775808 by omega)]
    refine ⟨trivial, by omega, by rw [Int.pow_succ]; exact h1⟩
  · simp only [l_impl_Admit_w_0, s_impl_Admit_w_0, dec_nlt, cond_false]

theorem shares_step {a s t bu : Int} {i : Nat} (hi : i < 8) (ha : 1 ≤ a) (ha2 : a ≤ 5342931457063200) (hs : 0 ≤ s ∧ s ≤ i * a) (ht : 1 ≤ t) (hb : 1 ≤ bu) (hbt : bu ≤ t) :
    IntKind.wrap .i64 (s + IntKind.wrap .i64 (IntKind.wrap .i64 (a.tdiv t) * bu)) = s + a.tdiv t * bu ∧ 0 ≤ s + a.tdiv t * bu ∧ s + a.tdiv t * bu ≤ ((i + 1 : Nat) : Int) * a := by
  obtain ⟨h1, h2, h3, h4⟩ := share_le (a := a) (by omega) ht hb hbt
  have h5 : (i : Int) * a ≤ 8 * a := Int.mul_le_mul_of_nonneg_right (by omega) (by omega)
  have h6 : ((i + 1 : Nat) : Int) * a = i * a + a := by rw [Int.natCast_add, Int.add_mul]; simp
  rw [w64 (n := a.tdiv t) (by omega) (by omega), w64 (n := a.tdiv t * bu) (by omega) (by omega), w64 (by omega) (by omega)]
  exact ⟨rfl, by omega, by omega⟩

theorem shares_impl {l : List RtTask} {a : Int} {b : Bool} (h : tasksOk l = true) (ha : 1 ≤ a) (ha2 : a ≤ 5342931457063200) (hN : 2 ^ 40 < N) (k : Int → Option R) : c_impl_Admit_w_2 N a b l.length l 0 0 k = k (shares a l) := by
  obtain ⟨hl, hx⟩ := task_ok h
  unfold c_impl_Admit_w_2
  have := fold (fun f i s => l_impl_Admit_w_2 N a b l.length l k f s i) l.length (fun i s => atD l i (fun x => s + a.tdiv x.fPeriod * x.fBudget) s) (fun i s => 0 ≤ s ∧ s ≤ i * a) k (fun f i s hi hs => ?_) (fun f s hs => ?_) (s := 0) (by simp) (f := N) (by omega)
  · rw [foldl_atD l (fun s x => s + a.tdiv x.fPeriod * x.fBudget) 0] at this
    exact this.1
  · obtain ⟨x, hxi⟩ := nth_some hi
    have hxx := hx i x hxi
    obtain ⟨e1, e2, e3⟩ := shares_step (show i < 8 by omega) ha ha2 hs hxx.1.1 hxx.2.1 hxx.2.2
    have e0 : (x.fPeriod == 0) = false := by rw [beq_dec]; exact decide_eq_false (by omega)
    simp only [l_impl_Admit_w_2, s_impl_Admit_w_2, dec_lt hi, dec_nn, Int.toNat_natCast, elemK_some hxi, wrap_next hi (by omega), Bool.and_true, cond_true, cond_false, atD_some hxi, e0, e1]
    exact ⟨trivial, e2, e3⟩
  · simp only [l_impl_Admit_w_2, s_impl_Admit_w_2, dec_nlt, cond_false]

theorem shares_spec {l : List RtTask} {b : Bool} (h : tasksOk l = true) (hN : 2 ^ 40 < N) (k : Int → Option R) : c_spec_Admit_w_0 N b l 0 0 k = k (shares 5342931457063200 l) := by
  obtain ⟨hl, hx⟩ := task_ok h
  unfold c_spec_Admit_w_0
  have := fold (fun f i s => l_spec_Admit_w_0 N b l k f s i) l.length (fun i s => atD l i (fun x => s + Int.tdiv 5342931457063200 x.fPeriod * x.fBudget) s) (fun i s => 0 ≤ s ∧ s ≤ i * 5342931457063200) k (fun f i s hi hs => ?_) (fun f s hs => ?_) (s := 0) (by simp) (f := N) (by omega)
  · rw [foldl_atD l (fun s x => s + Int.tdiv 5342931457063200 x.fPeriod * x.fBudget) 0] at this
    exact this.1
  · obtain ⟨x, hxi⟩ := nth_some hi
    have hxx := hx i x hxi
    obtain ⟨e1, e2, e3⟩ := shares_step (show i < 8 by omega) (show (1 : Int) ≤ 5342931457063200 by omega) (by omega) hs hxx.1.1 hxx.2.1 hxx.2.2
    have e0 : (x.fPeriod == 0) = false := by rw [beq_dec]; exact decide_eq_false (by omega)
    simp only [l_spec_Admit_w_0, s_spec_Admit_w_0, dec_lt hi, dec_nn, Int.toNat_natCast, elemK_some hxi, wrap_next hi (by omega), Bool.and_true, cond_true, cond_false, atD_some hxi, e0, e1]
    exact ⟨trivial, e2, e3⟩
  · simp only [l_spec_Admit_w_0, s_spec_Admit_w_0, dec_nlt, cond_false]

theorem periods_dvd (l : List RtTask) : ∀ (s : Int), (s ∣ l.foldl (fun s x => s * x.fPeriod) s) ∧ ∀ x ∈ l, x.fPeriod ∣ l.foldl (fun s x => s * x.fPeriod) s := by
  induction l with
  | nil => intro s; exact ⟨Int.dvd_refl _, fun x hx => by cases hx⟩
  | cons y l ih =>
    intro s
    obtain ⟨h1, h2⟩ := ih (s * y.fPeriod)
    refine ⟨Int.dvd_trans (Int.dvd_mul_right _ _) h1, fun x hx => ?_⟩
    rcases List.mem_cons.1 hx with rfl | hx
    · exact Int.dvd_trans (Int.dvd_mul_left _ _) h1
    · exact h2 x hx

theorem lcm_dvd {t : Int} (h0 : 1 ≤ t) (h1 : t ≤ 40) : t ∣ 5342931457063200 := by
  have key : ∀ n ∈ List.range 41, n ≠ 0 → 5342931457063200 % n = 0 := by decide
  have := key t.toNat (List.mem_range.2 (by omega)) (by omega)
  have e : t = (t.toNat : Int) := by omega
  rw [e]
  exact Int.ofNat_dvd.2 (Nat.dvd_of_mod_eq_zero this)

theorem shares_cross {a c : Int} (ha : 0 ≤ a) (hc : 0 ≤ c) (l : List RtTask) (h : ∀ x ∈ l, 1 ≤ x.fPeriod ∧ x.fPeriod ∣ a ∧ x.fPeriod ∣ c) : ∀ s t : Int, s * c = a * t →
    l.foldl (fun s x => s + a.tdiv x.fPeriod * x.fBudget) s * c = a * l.foldl (fun s x => s + c.tdiv x.fPeriod * x.fBudget) t := by
  induction l with
  | nil => intro s t e; exact e
  | cons x l ih =>
    intro s t e
    refine ih (fun y hy => h y (List.mem_cons_of_mem _ hy)) _ _ ?_
    obtain ⟨hp, ⟨p, hpa⟩, ⟨q, hqc⟩⟩ := h x List.mem_cons_self
    have e1 : a.tdiv x.fPeriod = p := by rw [hpa]; exact Int.mul_tdiv_cancel_left _ (by omega)
    have e2 : c.tdiv x.fPeriod = q := by rw [hqc]; exact Int.mul_tdiv_cancel_left _ (by omega)
    show (s + a.tdiv x.fPeriod * x.fBudget) * c = a * (t + c.tdiv x.fPeriod * x.fBudget)
    rw [e1, e2, Int.add_mul, Int.mul_add, e]
    congr 1
    rw [hpa, hqc]
    simp only [Int.mul_comm, Int.mul_left_comm, Int.mul_assoc]

theorem admit_same {l : List RtTask} (h : tasksOk l = true) (hp : 1 ≤ periods l) : decide (shares (periods l) l ≤ periods l) = decide (shares 5342931457063200 l ≤ 5342931457063200) := by
  obtain ⟨hl, hx⟩ := task_ok h
  have hc := shares_cross (a := periods l) (c := 5342931457063200) (by omega) (by omega) l (fun x hm => by
    obtain ⟨i, hi, rfl⟩ := List.mem_iff_getElem.1 hm
    have hxi := hx i _ (by rw [nth_eq]; exact List.getElem?_eq_getElem hi)
    exact ⟨hxi.1.1, (periods_dvd l 1).2 _ hm, lcm_dvd hxi.1.1 hxi.1.2⟩) 0 0 (by simp)
  have hc : shares (periods l) l * 5342931457063200 = periods l * shares 5342931457063200 l := hc
  refine decide_eq_decide.2 ⟨fun h1 => ?_, fun h1 => ?_⟩
  · have h2 : periods l * shares 5342931457063200 l ≤ periods l * 5342931457063200 := by rw [← hc]; exact Int.mul_le_mul_of_nonneg_right h1 (by omega)
    exact Int.le_of_mul_le_mul_left h2 (by omega)
  · have h2 : shares (periods l) l * 5342931457063200 ≤ periods l * 5342931457063200 := by rw [hc]; exact Int.mul_le_mul_of_nonneg_left h1 (by omega)
    exact Int.le_of_mul_le_mul_right h2 (by omega)

def admit (l : List RtTask) : Bool := tasksOk l && decide (shares 5342931457063200 l ≤ 5342931457063200)

theorem impl_Admit_w_eq {l : List RtTask} {b : Bool} (hN : 2 ^ 40 < N) (k : Bool → Option R) : g_impl_Admit_w N b l k = k (admit l) := by
  unfold g_impl_Admit_w admit
  rw [impl_ytasksOk_w_eq N hN]
  by_cases h : tasksOk l = true
  · rw [h]
    obtain ⟨_, hp1, hp2⟩ := periods_loop N (b := b) (b2 := b) h hN (fun _ => (none : Option R))
    simp only [Bool.not_true, cond_false, Bool.true_and]
    rw [(periods_loop N h hN _).1, shares_impl N h hp1 (by omega) hN, admit_same h hp1]
  · rw [Bool.not_eq_true] at h
    rw [h]; rfl

theorem spec_Admit_w_eq {l : List RtTask} {b : Bool} (hN : 2 ^ 40 < N) (k : Bool → Option R) : g_spec_Admit_w N b l k = k (admit l) := by
  unfold g_spec_Admit_w admit
  rw [spec_l18Tasks_w_eq N hN]
  by_cases h : tasksOk l = true
  · rw [h]
    simp only [Bool.not_true, cond_false, Bool.true_and]
    rw [shares_spec N h hN]
  · rw [Bool.not_eq_true] at h
    rw [h]; rfl

theorem law_Admit {l : List RtTask} {b : Bool} (hl : l.length ≤ maxLen) (hN : 2 ^ 40 < N) (k : Bool → Option R) : g_laws_FnExactAdmit_r N b l k = k true := by
  unfold g_laws_FnExactAdmit_r
  rw [laws_szRtTaskS_r_eq N hl]
  by_cases h : 1048576 < l.length
  · rw [decide_eq_true h]; rfl
  · rw [decide_eq_false h, cond_false, decide_eq_false (by omega)]
    have hl : l.length ≤ 2 ^ 40 := by omega
    simp only [laws_toRtTaskS_r_eq N hl hN, spec_Admit_w_eq N hN, impl_Admit_w_eq N hN, laws_eqRtTaskS_ww_eq N hl hN, beq_self_eq_true, decide_true, Bool.not_true, cond_false]

end
end Go.Sa
