import Derived.Test.YtflmjaehnbnjnaaP0
set_option linter.all false
namespace Go.Sa
open Go Go.Eng
section
variable {R : Type} (N : Nat)
variable {R : Type}

theorem WalkTwo_both {s : ByteArray} {host root va acc : Int} {u : Bool} : ∃ (c g h st : Int) (m : ByteArray), (∀ k : Int → Int → Int → Int → ByteArray → Option R, g_impl_WalkTwo N s host root va acc u k = k c g h st m) ∧ ∀ k : Int → Int → Int → Int → ByteArray → Option R, g_spec_WalkTwo N s host root va acc u k = k c g h st m := by
  have hIT : ∀ k : Int → Int → Int → Int → ByteArray → Option R, g_impl_WalkTwo N s host root va acc u k = cond (twoBad s host root va acc) (k 0 0 0 0 ⟨[].toArray⟩) (g_impl_WalkTwo_2_WWWWWWWWw N 0 0 0 0 ⟨[].toArray⟩ false root va acc u host (ofBytes s) fun n4 n5 n6 n7 n8 l => cond (Nat.ble (0 + l.length) l.length) (k n4 n5 n6 n7 (toBytes (seg l 0 l.length))) none) := fun k => by
    unfold g_impl_WalkTwo twoBad
    rw [impl_ymemOk_eq, impl_yin_eq, impl_walkOk_eq]
    have ht : ∀ (a b c : Bool) (K : Bool → Option R), (oK (cond (!a) (some true) (cond (!b) (some true) (some (!c)))) K) = K (!a || (!b || !c)) := fun a b c K => by cases a <;> cases b <;> rfl
    rw [ht]
  have hb : (!memOk s || (decide (host < 0) || (decide (host > 255) || (decide (root < 0) || (decide (root > 255) || (decide (va < 0) || (decide (va ≥ 262144) || !accOk acc))))))) = twoBad s host root va acc := by
    unfold twoBad
    have a1 : decide (host < 0) = !decide (host ≥ 0) := by rw [← decide_not]; exact decide_eq_decide.2 (by omega)
    have a2 : decide (host > 255) = !decide (host ≤ 255) := by rw [← decide_not]; exact decide_eq_decide.2 (by omega)
    have a3 : decide (root < 0) = !decide (root ≥ 0) := by rw [← decide_not]; exact decide_eq_decide.2 (by omega)
    have a4 : decide (root > 255) = !decide (root ≤ 255) := by rw [← decide_not]; exact decide_eq_decide.2 (by omega)
    have a5 : decide (va < 0) = !decide (va ≥ 0) := by rw [← decide_not]; exact decide_eq_decide.2 (by omega)
    have a6 : decide (va ≥ 262144) = !decide (va ≤ 262143) := by rw [← decide_not]; exact decide_eq_decide.2 (by omega)
    rw [a1, a2, a3, a4, a5, a6]
    cases memOk s <;> cases decide (host ≥ 0) <;> cases decide (host ≤ 255) <;> cases decide (root ≥ 0) <;> cases decide (root ≤ 255) <;> cases decide (va ≥ 0) <;> cases decide (va ≤ 262143) <;> rfl
  cases h1 : twoBad s host root va acc with
  | true =>
    refine ⟨0, 0, 0, 0, ⟨[].toArray⟩, fun k => by rw [hIT, h1, cond_true], fun k => ?_⟩
    unfold g_spec_WalkTwo
    rw [spec_MemFault_eq, spec_l03Acc_all, spec_two_test, hb, h1, cond_true]
  | false =>
    obtain ⟨hg, ho, ro, v, rfl, rfl, rfl, q1, q2, q3, ha⟩ := twoBad_facts h1
    have f256 : ∀ n : Int, Int.fdiv n 256 = n / 256 := fun n => fdiv_lit n (by omega)
    have f8192 : ∀ n : Int, Int.fdiv n 8192 = n / 8192 := fun n => fdiv_lit n (by omega)
    have eI : IntKind.wrap .i64 (IntKind.wrap .i64 ((ro : Int) * 256) + IntKind.wrap .i64 (4 * ((v : Int) / 8192 % 32))) = ((ro * 256 + 4 * (v / 8192) : Nat) : Int) := by
      rw [w64 (n := (ro : Int) * 256) (by omega) (by omega), w64 (n := 4 * ((v : Int) / 8192 % 32)) (by omega) (by omega), w64 (by omega) (by omega)]; omega
    have eS : IntKind.wrap .i64 (IntKind.wrap .i64 ((ro : Int) * 256) + IntKind.wrap .i64 (4 * ((v : Int) / 8192))) = ((ro * 256 + 4 * (v / 8192) : Nat) : Int) := by
      rw [w64 (n := (ro : Int) * 256) (by omega) (by omega), w64 (n := 4 * ((v : Int) / 8192)) (by omega) (by omega), w64 (by omega) (by omega)]; omega
    obtain ⟨at1, hat1⟩ : ∃ at1, ro * 256 + 4 * (v / 8192) = at1 := ⟨_, rfl⟩
    have hat2 : at1 < 262144 ∧ at1 % 4 = 0 ∧ at1 % 256 ≤ 252 := by omega
    rw [hat1] at eI eS
    obtain ⟨m, hm0, hm1, hp⟩ := read2 N (R := R) hg q1 hat2.1 hat2.2.2
    rcases hp with ⟨hS, hI⟩ | ⟨pa, e, s1, hpa, p5, hlt, hwc, hS, hI⟩
    · refine ⟨3, at1, 0, 0 + m, s, fun k => ?_, fun k => ?_⟩
      · rw [hIT, h1, cond_false]
        unfold g_impl_WalkTwo_2_WWWWWWWWw
        rw [f8192, and31, eI, hI _ _ _ _ _ _ _ (by omega) (by omega)]
        exact mem_end s (fun z => k 3 at1 0 (0 + m) z)
      · unfold g_spec_WalkTwo
        rw [spec_MemFault_eq, spec_l03Acc_all, spec_two_test, hb, h1, cond_false, f8192, eS, hS _ _ _ (by omega) (by omega)]
        rfl
    have ed : (e : Int) / 256 = ((e / 256 : Nat) : Int) := by omega
    have st1 : IntKind.wrap .i64 (0 + m + 1) = 0 + m + 1 := w64 (by omega) (by omega)
    cases hld : leadsOn e with
    | true =>
      by_cases hbig : e / 256 ≥ 1024
      · refine ⟨2, 0, 0, 0 + m + 1, s1, fun k => ?_, fun k => ?_⟩
        · rw [hIT, h1, cond_false]
          unfold g_impl_WalkTwo_2_WWWWWWWWw
          rw [f8192, and31, eI, hI _ _ _ _ _ _ _ (by omega) (by omega), Bool.not_true, cond_false, leads_eq, oK_some_eq, hld, cond_true, f256, ed, decide_eq_true (show ((e / 256 : Nat) : Int) ≥ 1024 by omega), cond_true]
          exact mem_end s1 (fun z => k 2 0 0 (0 + m + 1) z)
        · unfold g_spec_WalkTwo
          rw [spec_MemFault_eq, spec_l03Acc_all, spec_two_test, hb, h1, cond_false, f8192, eS, hS _ _ _ (by omega) (by omega), decide_eq_false (show ¬ (pa : Int) < 0 by omega), cond_false, spec_l01Word_eq N hpa (by have := p5.le; omega), hwc, leads_eq, oK_some_eq, hld, cond_true, f256, ed, decide_eq_true (show ((e / 256 : Nat) : Int) ≥ 1024 by omega), cond_true, st1]
          rfl
      have eI2 : IntKind.wrap .i64 (IntKind.wrap .i64 (((e / 256 : Nat) : Int) * 256) + IntKind.wrap .i64 (4 * ((v : Int) / 256 % 32))) = ((e / 256 * 256 + 4 * (v / 256 % 32) : Nat) : Int) := by
        rw [w64 (n := ((e / 256 : Nat) : Int) * 256) (by omega) (by omega), w64 (n := 4 * ((v : Int) / 256 % 32)) (by omega) (by omega), w64 (by omega) (by omega)]; omega
      obtain ⟨at2, hat3⟩ : ∃ at2, e / 256 * 256 + 4 * (v / 256 % 32) = at2 := ⟨_, rfl⟩
      have hat4 : at2 < 262144 ∧ at2 % 4 = 0 ∧ at2 % 256 ≤ 252 := by omega
      rw [hat3] at eI2
      have t32 : Int.tmod ((v : Int) / 256) 32 = (v : Int) / 256 % 32 := tmod_nn (by omega)
      obtain ⟨m2, hm2, hm3, hp2⟩ := read2 N (R := R) p5 q1 hat4.1 hat4.2.2
      rcases hp2 with ⟨hS2, hI2⟩ | ⟨pa2, e2, s2, hpa2, r5, hlt2, hwc2, hS2, hI2⟩
      · refine ⟨3, at2, 0, 0 + m + 1 + m2, s1, fun k => ?_, fun k => ?_⟩
        · rw [hIT, h1, cond_false]
          unfold g_impl_WalkTwo_2_WWWWWWWWw
          rw [f8192, and31, eI, hI _ _ _ _ _ _ _ (by omega) (by omega), Bool.not_true, cond_false, leads_eq, oK_some_eq, hld, cond_true, f256, ed, decide_eq_false (show ¬ ((e / 256 : Nat) : Int) ≥ 1024 by omega), cond_false, f256, and31, eI2, hI2 _ _ _ _ _ _ _ (by omega) (by omega)]
          exact mem_end s1 (fun z => k 3 at2 0 (0 + m + 1 + m2) z)
        · unfold g_spec_WalkTwo
          rw [spec_MemFault_eq, spec_l03Acc_all, spec_two_test, hb, h1, cond_false, f8192, eS, hS _ _ _ (by omega) (by omega), decide_eq_false (show ¬ (pa : Int) < 0 by omega), cond_false, spec_l01Word_eq N hpa (by have := p5.le; omega), hwc, leads_eq, oK_some_eq, hld, cond_true, f256, ed, decide_eq_false (show ¬ ((e / 256 : Nat) : Int) ≥ 1024 by omega), cond_false, st1, f256, t32, eI2, hS2 _ _ _ (by omega) (by omega)]
          rfl
      have ed2 : (e2 : Int) / 256 = ((e2 / 256 : Nat) : Int) := by omega
      have st2 : IntKind.wrap .i64 (0 + m + 1 + m2 + 1) = 0 + m + 1 + m2 + 1 := w64 (by omega) (by omega)
      cases hle : letsB (low8 e2) acc u with
      | false =>
        refine ⟨1, 0, 0, 0 + m + 1 + m2 + 1, s2, fun k => ?_, fun k => ?_⟩
        · rw [hIT, h1, cond_false]
          unfold g_impl_WalkTwo_2_WWWWWWWWw
          rw [f8192, and31, eI, hI _ _ _ _ _ _ _ (by omega) (by omega), Bool.not_true, cond_false, leads_eq, oK_some_eq, hld, cond_true, f256, ed, decide_eq_false (show ¬ ((e / 256 : Nat) : Int) ≥ 1024 by omega), cond_false, f256, and31, eI2, hI2 _ _ _ _ _ _ _ (by omega) (by omega), Bool.not_true, cond_false, low_eq, impl_ylets_eq N _ acc ha, hle, Bool.not_false, oK_some_eq, cond_true]
          exact mem_end s2 (fun z => k 1 0 0 (0 + m + 1 + m2 + 1) z)
        · unfold g_spec_WalkTwo
          rw [spec_MemFault_eq, spec_l03Acc_all, spec_two_test, hb, h1, cond_false, f8192, eS, hS _ _ _ (by omega) (by omega), decide_eq_false (show ¬ (pa : Int) < 0 by omega), cond_false, spec_l01Word_eq N hpa (by have := p5.le; omega), hwc, leads_eq, oK_some_eq, hld, cond_true, f256, ed, decide_eq_false (show ¬ ((e / 256 : Nat) : Int) ≥ 1024 by omega), cond_false, st1, f256, t32, eI2, hS2 _ _ _ (by omega) (by omega), decide_eq_false (show ¬ (pa2 : Int) < 0 by omega), cond_false, spec_l01Word_eq N hpa2 (by have := r5.le; omega), hwc2, may_eq, hle, Bool.not_false, oK_some_eq, cond_true, st2]
          rfl
      | true =>
        obtain ⟨c, g, h, st', acc', mm, hSf, hIf⟩ := fin_both N (R := R) (s := s2) (host := ho) (va := v) (e := e2) (gp := at2) (frame := e2 / 256) (acc := acc) (st := 0 + m + 1 + m2 + 1) (bad := 0) (b := false) (z := ⟨[].toArray⟩) r5 q1 q3 hlt2 hat4.1 hat4.2.1 (by omega) ha (by omega) (by omega)
        refine ⟨c, g, h, st', mm, fun k => ?_, fun k => ?_⟩
        · rw [hIT, h1, cond_false]
          unfold g_impl_WalkTwo_2_WWWWWWWWw
          rw [f8192, and31, eI, hI _ _ _ _ _ _ _ (by omega) (by omega), Bool.not_true, cond_false, leads_eq, oK_some_eq, hld, cond_true, f256, ed, decide_eq_false (show ¬ ((e / 256 : Nat) : Int) ≥ 1024 by omega), cond_false, f256, and31, eI2, hI2 _ _ _ _ _ _ _ (by omega) (by omega), Bool.not_true, cond_false, low_eq, impl_ylets_eq N _ acc ha, hle, Bool.not_true, oK_some_eq, cond_false, f256, ed2]
          refine Eq.trans (hIf (fun n4 n5 n6 n7 n8 l => cond (Nat.ble (0 + l.length) l.length) (k n4 n5 n6 n7 (toBytes (seg l 0 l.length))) none)) ?_
          exact mem_end mm (fun z => k c g h st' z)
        · unfold g_spec_WalkTwo
          rw [spec_MemFault_eq, spec_l03Acc_all, spec_two_test, hb, h1, cond_false, f8192, eS, hS _ _ _ (by omega) (by omega), decide_eq_false (show ¬ (pa : Int) < 0 by omega), cond_false, spec_l01Word_eq N hpa (by have := p5.le; omega), hwc, leads_eq, oK_some_eq, hld, cond_true, f256, ed, decide_eq_false (show ¬ ((e / 256 : Nat) : Int) ≥ 1024 by omega), cond_false, st1, f256, t32, eI2, hS2 _ _ _ (by omega) (by omega), decide_eq_false (show ¬ (pa2 : Int) < 0 by omega), cond_false, spec_l01Word_eq N hpa2 (by have := r5.le; omega), hwc2, may_eq, hle, Bool.not_true, oK_some_eq, cond_false, st2, f256, ed2]
          exact hSf k
    | false =>
      have t32 : Int.tmod ((v : Int) / 256) 32 = (v : Int) / 256 % 32 := tmod_nn (by omega)
      have eF : IntKind.wrap .i64 (((e / 256 : Nat) : Int) + (v : Int) / 256 % 32) = ((e / 256 + v / 256 % 32 : Nat) : Int) := by rw [w64 (by omega) (by omega)]; omega
      have hor : ∀ (C L : Bool) (K : Bool → Option R), oK (cond C (some true) (some (!L))) K = K (C || !L) := fun C L K => by cases C <;> rfl
      cases hle : ((Int.tmod ((e / 256 : Nat) : Int) 32 != 0) || !letsB (low8 e) acc u) with
      | true =>
        refine ⟨1, 0, 0, 0 + m + 1, s1, fun k => ?_, fun k => ?_⟩
        · rw [hIT, h1, cond_false]
          unfold g_impl_WalkTwo_2_WWWWWWWWw
          rw [f8192, and31, eI, hI _ _ _ _ _ _ _ (by omega) (by omega), Bool.not_true, cond_false, leads_eq, oK_some_eq, hld, cond_false, f256, ed, low_eq, impl_ylets_eq N _ acc ha, hor, hle, cond_true]
          exact mem_end s1 (fun z => k 1 0 0 (0 + m + 1) z)
        · unfold g_spec_WalkTwo
          rw [spec_MemFault_eq, spec_l03Acc_all, spec_two_test, hb, h1, cond_false, f8192, eS, hS _ _ _ (by omega) (by omega), decide_eq_false (show ¬ (pa : Int) < 0 by omega), cond_false, spec_l01Word_eq N hpa (by have := p5.le; omega), hwc, leads_eq, oK_some_eq, hld, cond_false, f256, ed, may_eq32, oK_some_eq, hle, cond_true, st1]
          rfl
      | false =>
        obtain ⟨c, g, h, st', acc', mm, hSf, hIf⟩ := fin_both N (R := R) (s := s1) (host := ho) (va := v) (e := e) (gp := at1) (frame := e / 256 + v / 256 % 32) (acc := acc) (st := 0 + m + 1) (bad := 0) (b := false) (z := ⟨[].toArray⟩) p5 q1 q3 hlt hat2.1 hat2.2.1 (by omega) ha (by omega) (by omega)
        refine ⟨c, g, h, st', mm, fun k => ?_, fun k => ?_⟩
        · rw [hIT, h1, cond_false]
          unfold g_impl_WalkTwo_2_WWWWWWWWw
          rw [f8192, and31, eI, hI _ _ _ _ _ _ _ (by omega) (by omega), Bool.not_true, cond_false, leads_eq, oK_some_eq, hld, cond_false, f256, ed, low_eq, impl_ylets_eq N _ acc ha, hor, hle, cond_false, f256, and31, eF]
          refine Eq.trans (hIf (fun n4 n5 n6 n7 n8 l => cond (Nat.ble (0 + l.length) l.length) (k n4 n5 n6 n7 (toBytes (seg l 0 l.length))) none)) ?_
          exact mem_end mm (fun z => k c g h st' z)
        · unfold g_spec_WalkTwo
          rw [spec_MemFault_eq, spec_l03Acc_all, spec_two_test, hb, h1, cond_false, f8192, eS, hS _ _ _ (by omega) (by omega), decide_eq_false (show ¬ (pa : Int) < 0 by omega), cond_false, spec_l01Word_eq N hpa (by have := p5.le; omega), hwc, leads_eq, oK_some_eq, hld, cond_false, f256, ed, may_eq32, oK_some_eq, hle, cond_false, st1, f256, t32, eF]
          exact hSf k

theorem low8_nat (e : Nat) : low8 ((e : Nat) : Int) = e % 256 := by unfold low8; omega

theorem look_ok {s : ByteArray} {root va : Nat} {acc : Int} {u : Bool} (h256 : s.size % 256 = 0) (hv : va < 262144) (h : (look s root va acc u).fault = 0) :
    ∃ a t i : Nat, a = ent t i ∧ t < s.size / 256 ∧ i < 32 ∧ (look s root va acc u).entryAt = (a : Int) ∧ (look s root va acc u).old = (wordN s a : Nat) ∧ (look s root va acc u).entry = (putE (wordN s a) acc : Nat) ∧
      look (setWord s a (putE (wordN s a) acc : Nat)) root va acc u = { look s root va acc u with old := (putE (wordN s a) acc : Nat) } := by
  have hE : ∀ a b : Nat, ∃ x, wordN s (ent a b) = x := fun a b => ⟨_, rfl⟩
  unfold look at h ⊢
  dsimp only at h ⊢
  by_cases h0 : s.size / 256 ≤ root
  · rw [decide_eq_true h0] at h; exact absurd (show (2 : Int) = 0 from h) (by decide)
  rw [decide_eq_false h0, cond_false] at h ⊢
  obtain ⟨e, he⟩ : ∃ e, wordN s (ent root (va / 8192)) = e := ⟨_, rfl⟩
  rw [he] at h ⊢
  have hv32 : va / 256 % 32 < 32 := by omega
  cases hL : leadsOn e with
  | true =>
    rw [hL, cond_true] at h
    rw [cond_true]
    by_cases h1 : s.size / 256 ≤ e / 256
    · rw [decide_eq_true h1] at h; exact absurd (show (2 : Int) = 0 from h) (by decide)
    rw [decide_eq_false h1, cond_false] at h ⊢
    obtain ⟨e2, he2⟩ : ∃ e2, wordN s (ent (e / 256) (va / 256 % 32)) = e2 := ⟨_, rfl⟩
    rw [he2] at h ⊢
    cases hl : letsB (low8 (e2 : Nat)) acc u with
    | false => rw [hl] at h; exact absurd (show (1 : Int) = 0 from h) (by decide)
    | true =>
    rw [hl, Bool.not_true, cond_false] at h
    rw [Bool.not_true, cond_false]
    by_cases h2 : s.size / 256 ≤ e2 / 256
    · rw [decide_eq_true h2] at h; exact absurd (show (2 : Int) = 0 from h) (by decide)
    rw [decide_eq_false h2, cond_false]
    have hin : ent (e / 256) (va / 256 % 32) + 4 ≤ s.size := by rw [ent_eq]; omega
    refine ⟨ent (e / 256) (va / 256 % 32), e / 256, va / 256 % 32, rfl, by omega, hv32, rfl, by rw [he2], by rw [he2], ?_⟩
    rw [he2]
    have hne : ent root (va / 8192) ≠ ent (e / 256) (va / 256 % 32) := fun hh => by
      rw [hh, he2] at he
      rw [← he, letsB_leads hl] at hL
      cases hL
    have hdis : ent root (va / 8192) + 4 ≤ ent (e / 256) (va / 256 % 32) ∨ ent (e / 256) (va / 256 % 32) + 4 ≤ ent root (va / 8192) := by
      rw [ent_eq, ent_eq] at hne ⊢; omega
    have hlt2 : e2 < 4294967296 := by rw [← he2]; exact wordN_lt _ _
    obtain ⟨f1, f2, f3, f4, f5⟩ := putE_facts e2 acc
    rw [setWord_size hin, decide_eq_false h0, cond_false, wordN_set_ne hin hdis, he, hL, cond_true, decide_eq_false h1, cond_false, wordN_set_eq hin (f4 hlt2), letsB_put, hl, Bool.not_true, cond_false, f1, decide_eq_false h2, cond_false, f3]
  | false =>
    rw [hL, cond_false] at h
    rw [cond_false]
    cases h1 : (e / 256 % 32 == 0) with
    | false => rw [h1] at h; exact absurd (show (1 : Int) = 0 from h) (by decide)
    | true =>
    rw [h1, Bool.not_true, cond_false] at h
    rw [Bool.not_true, cond_false]
    cases hl : letsB (low8 (e : Nat)) acc u with
    | false => rw [hl] at h; exact absurd (show (1 : Int) = 0 from h) (by decide)
    | true =>
    rw [hl, Bool.not_true, cond_false] at h
    rw [Bool.not_true, cond_false]
    by_cases h2 : s.size / 256 ≤ e / 256 + va / 256 % 32
    · rw [decide_eq_true h2] at h; exact absurd (show (2 : Int) = 0 from h) (by decide)
    rw [decide_eq_false h2, cond_false]
    have hin : ent root (va / 8192) + 4 ≤ s.size := by rw [ent_eq]; omega
    have hlt2 : e < 4294967296 := by rw [← he]; exact wordN_lt _ _
    obtain ⟨f1, f2, f3, f4, f5⟩ := putE_facts e acc
    refine ⟨ent root (va / 8192), root, va / 8192, rfl, by omega, by omega, rfl, by rw [he], by rw [he], ?_⟩
    rw [he, setWord_size hin, decide_eq_false h0, cond_false, wordN_set_eq hin (f4 hlt2), leadsOn_put, hL, cond_false, f1, h1, Bool.not_true, cond_false, letsB_put, hl, Bool.not_true, cond_false, decide_eq_false h2, cond_false, f3]

def frame (s : ByteArray) (f : Nat) : ByteArray := s.extract (f * 256) (f * 256 + 256)

def wEq (x y : Nat) : Prop := x / 256 = y / 256 ∧ x % 256 &&& 31 = y % 256 &&& 31

theorem wEq.refl (x : Nat) : wEq x x := ⟨rfl, rfl⟩

theorem wEq.trans {x y z : Nat} (h : wEq x y) (g : wEq y z) : wEq x z := ⟨h.1.trans g.1, h.2.trans g.2⟩

theorem wEq.symm {x y : Nat} (h : wEq x y) : wEq y x := ⟨h.1.symm, h.2.symm⟩

theorem wEq_put (e : Nat) (acc : Int) : wEq (putE e acc) e := by
  obtain ⟨h1, h2, _⟩ := putE_facts e acc
  rw [low8_nat, low8_nat] at h2
  exact ⟨h1, h2⟩

theorem wEq.lets {x y : Nat} (h : wEq x y) (a : Int) (u : Bool) : letsB (low8 (x : Nat)) a u = letsB (low8 (y : Nat)) a u := by
  have h3 := h.2
  rw [← low8_nat, ← low8_nat] at h3
  unfold letsB
  rw [and_sub _ _ 1 rfl h3, and_sub _ _ 16 rfl h3]
  have h2 : ∀ c : Nat, (c = 4 ∨ c = 8 ∨ c = 2) → low8 (x : Nat) &&& c = low8 (y : Nat) &&& c := fun c hc => by
    rcases hc with rfl | rfl | rfl
    · exact and_sub _ _ 4 rfl h3
    · exact and_sub _ _ 8 rfl h3
    · exact and_sub _ _ 2 rfl h3
  rw [h2 _ (pick3 _)]

/-- The same but for flags, in all words. -/
def flagEq (s t : ByteArray) : Prop := t.size = s.size ∧ ∀ f i, f < s.size / 256 → i < 64 → wEq (wordN t (ent f i)) (wordN s (ent f i))

theorem flagEq.refl (s : ByteArray) : flagEq s s := ⟨rfl, fun _ _ _ _ => wEq.refl _⟩

theorem flagEq.trans {s t v : ByteArray} (h : flagEq s t) (g : flagEq t v) : flagEq s v := ⟨g.1.trans h.1, fun f i hf hi => (g.2 f i (by rw [h.1]; exact hf) hi).trans (h.2 f i hf hi)⟩

def bitI (e : Nat) (c : Int) : Bool := (IntKind.wrap .i64 (((BitVec.toNat (BitVec.ofInt 64 (e : Int) &&& BitVec.ofInt 64 c)) : Nat) : Int) != 0)

def pteW (n2 n3 : Int) : Int := IntKind.wrap .i64 (((BitVec.toNat (BitVec.ofInt 64 (IntKind.wrap .i64 (((BitVec.toNat (BitVec.ofInt 64 (IntKind.wrap .i64 (n2 * 256)) ||| BitVec.ofInt 64 n3)) : Nat) : Int)) ||| BitVec.ofInt 64 1)) : Nat) : Int)

def zeroF (s : ByteArray) (y : Nat) : ByteArray := (s.extract 0 (y * 256) ++ toBytes (seg (List.replicate 256 (0 : Int)) 0 256)) ++ s.extract ((y + 1) * 256) s.size

def lastOut (s : ByteArray) (e v : Nat) (w : Int) : ByteArray × Int :=
  if s.size / 256 ≤ e / 256 then (s, 9)
  else if bitI (wordN s (ent (e / 256) (v / 256 % 32))) 1 = true then (s, 9)
  else (setWord s (ent (e / 256) (v / 256 % 32)) w, 0)

theorem last_eq {s : ByteArray} {e v : Nat} {w : Int} (hs : s.size ≤ 65536) (he : e < 2 ^ 40) (k : ByteArray → Int → Option R) :
    (g_spec_l03Entry N s (Int.fdiv (e : Int) 256) (Int.tmod (Int.fdiv (v : Int) 256) 32) fun n6 b3 =>
      (oK (cond (!b3) (some true) (some (IntKind.wrap .i64 (((BitVec.toNat (BitVec.ofInt 64 n6 &&& BitVec.ofInt 64 1)) : Nat) : Int) != 0))) fun j4 =>
      cond j4 (k s 9)
      (g_spec_SetWord N s (IntKind.wrap .i64 (IntKind.wrap .i64 (Int.fdiv (e : Int) 256 * 256) + IntKind.wrap .i64 (4 * Int.tmod (Int.fdiv (v : Int) 256) 32))) w fun s4 => k s4 0))) = k (lastOut s e v w).1 (lastOut s e v w).2 := by
  have e' : Int.fdiv (e : Int) 256 = ((e / 256 : Nat) : Int) := fdiv_nat e 256 (by omega)
  have hi : v / 256 % 32 < 32 := Nat.mod_lt _ (by omega)
  have hx : Int.tmod (Int.fdiv (v : Int) 256) 32 = ((v / 256 % 32 : Nat) : Int) := by
    have e' : Int.fdiv (v : Int) 256 = ((v / 256 : Nat) : Int) := fdiv_nat v 256 (by omega)
    rw [e', tmod_nn (by omega)]
    rfl
  rw [e', hx, at2_eq (by omega) hi]
  unfold lastOut
  by_cases h : s.size / 256 ≤ e / 256
  · rw [spec_l03Entry_no N (by omega) h, if_pos h]
    rfl
  · have hle : (e / 256 * 256 + 4 * (v / 256 % 32)) + 4 ≤ s.size := by omega
    rw [if_neg h]
    cases hc : bitI (wordN s (ent (e / 256) (v / 256 % 32))) 1 with
    | true =>
      rw [if_pos rfl, spec_l03Entry_yes N hs hi h, Bool.not_true, cond_false]
      unfold bitI at hc
      rw [hc, oK_some_eq, cond_true]
    | false =>
      rw [if_neg (by simp), spec_l03Entry_yes N hs hi h, Bool.not_true, cond_false]
      unfold bitI at hc
      rw [hc, oK_some_eq, cond_false, spec_SetWord_eq N hle hs, ent_eq]

/-- The map's form is bad. -/
def mapBad (n1 n2 n3 : Int) (b : Bool) : Bool := decide (n1 < 0) || (decide (n1 ≥ 262144) || ((mapForm n1 n2 n3 (cond b 8192 256) b).getD true))

structure MapOut where
  mem : ByteArray
  took : Bool
  code : Int

def mapOutE (s : ByteArray) (r v e : Nat) (n2 n3 : Int) (b : Bool) (free : Option Nat) : MapOut :=
  cond b (cond (bitI e 1) ⟨s, false, 9⟩ ⟨setWord s (ent r (v / 8192)) (pteW n2 n3), false, 0⟩)
    (cond (bitI e 1) (cond (bitI e 14) ⟨s, false, 9⟩ ⟨(lastOut s e v (pteW n2 n3)).1, false, (lastOut s e v (pteW n2 n3)).2⟩)
      (match free with
       | none => ⟨s, false, 4⟩
       | some y => ⟨(lastOut (setWord (zeroF s y) (ent r (v / 8192)) ((y * 256 ||| 1 : Nat) : Int)) (y * 256 ||| 1) v (pteW n2 n3)).1, true, (lastOut (setWord (zeroF s y) (ent r (v / 8192)) ((y * 256 ||| 1 : Nat) : Int)) (y * 256 ||| 1) v (pteW n2 n3)).2⟩))

def mapOut (s : ByteArray) (r v : Nat) (n2 n3 : Int) (b : Bool) (free : Option Nat) : MapOut := mapOutE s r v (wordN s (ent r (v / 8192))) n2 n3 b free

def mapOne (s : ByteArray) (r : Nat) (n1 n2 n3 : Int) (b : Bool) (free : Option Nat) : MapOut :=
  cond (mapBad n1 n2 n3 b) ⟨s, false, 1⟩ (mapOut s r n1.toNat n2 n3 b free)

theorem zeroF_size {s : ByteArray} {y : Nat} (hy : y < s.size / 256) : (zeroF s y).size = s.size := by
  have hz : (toBytes (seg (List.replicate 256 (0 : Int)) 0 256)).size = 256 := by
    have hq := seg_all (List.replicate 256 (0 : Int))
    rw [List.length_replicate] at hq
    rw [hq, toBytes_size, List.length_replicate]
  unfold zeroF
  rw [ByteArray.size_append, ByteArray.size_append, hz, ByteArray.size_extract, ByteArray.size_extract]
  omega

theorem lastOut_size {s : ByteArray} {e v : Nat} {w : Int} : (lastOut s e v w).1.size = s.size := by
  unfold lastOut
  split
  · rfl
  · split
    · rfl
    · exact setWord_size (by have h : ¬ s.size / 256 ≤ e / 256 := by assumption
                             rw [ent_eq]; omega) w

def nxt (l : List Int) (m m1 : Nat) : Option Nat := if m1 = 0 then none else (nth l m).map Int.toNat

theorem map_v1_eq {s : ByteArray} {r : Nat} {n1 n2 n3 : Int} {b b1 : Bool} {m m1 m2 : Nat} {l : List Int} (hs : s.size ≤ 65536) (h256 : s.size % 256 = 0) (hr : r < s.size / 256) (hw : m + m1 ≤ l.length) (hl : ∀ x ∈ l, ∃ y : Nat, x = (y : Int) ∧ y < s.size / 256) (k : ByteArray → Nat → Nat → Nat → Int → Option R) :
    g_spec_l03Map_w_v1 N s (r : Int) n1 n2 n3 b m m1 m2 b1 l k = k (mapOne s r n1 n2 n3 b (nxt l m m1)).mem (cond (mapOne s r n1 n2 n3 b (nxt l m m1)).took (1 + m) m) (cond (mapOne s r n1 n2 n3 b (nxt l m m1)).took (m1 - 1) m1) m2 (mapOne s r n1 n2 n3 b (nxt l m m1)).code := by
  have hj : g_spec_l03Map_w_v1 N s (r : Int) n1 n2 n3 b m m1 m2 b1 l k = oK (cond b (some (8192 : Int)) (some (256 : Int))) fun j => oK (cond (decide (n1 < 0)) (some true) (cond (decide (n1 ≥ 262144)) (some true) (mapForm n1 n2 n3 j b))) _ := rfl
  have hc : (cond b (some (8192 : Int)) (some (256 : Int))) = some (cond b 8192 256) := by cases b <;> rfl
  have hB : (cond (decide (n1 < 0)) (some true) (cond (decide (n1 ≥ 262144)) (some true) (mapForm n1 n2 n3 (cond b 8192 256) b))) = some (mapBad n1 n2 n3 b) := by
    unfold mapBad
    obtain ⟨bad, hbad⟩ := mapForm_ex n1 n2 n3 (cond b 8192 256) b (by cases b <;> decide)
    rw [hbad]
    cases decide (n1 < 0) <;> cases decide (n1 ≥ 262144) <;> rfl
  rw [hj, hc, oK_some_eq, hB, oK_some_eq]
  unfold mapOne
  cases hbb : mapBad n1 n2 n3 b with
  | true => rfl
  | false =>
  have hrange : 0 ≤ n1 ∧ n1 < 262144 := by
    unfold mapBad at hbb
    rw [Bool.or_eq_false_iff, Bool.or_eq_false_iff] at hbb
    have a := of_decide_eq_false hbb.1
    have c := of_decide_eq_false hbb.2.1
    omega
  obtain ⟨v, rfl⟩ := Int.eq_ofNat_of_zero_le hrange.1
  have hv : v < 262144 := by omega
  clear hB hj hc hbb
  rw [cond_false, cond_false, show Int.toNat ((v : Nat) : Int) = v from rfl]
  have hd : v / 8192 < 32 := by omega
  have hat : (r * 256 + 4 * (v / 8192)) + 4 ≤ s.size := by omega
  have he := wordN_lt s (r * 256 + 4 * (v / 8192))
  rw [at_eq (by omega) hv, spec_l01Word_eq N hat (by omega), wordN_cast]
  unfold mapOut mapOutE
  rw [ent_eq]
  generalize hw0 : wordN s (r * 256 + 4 * (v / 8192)) = e at he ⊢
  have hV' : (IntKind.wrap .i64 (((BitVec.toNat (BitVec.ofInt 64 (e : Int) &&& BitVec.ofInt 64 1)) : Nat) : Int) == 0) = !(bitI e 1) := by
    unfold bitI
    rw [bne, Bool.not_not]
  have hV : (IntKind.wrap .i64 (((BitVec.toNat (BitVec.ofInt 64 (e : Int) &&& BitVec.ofInt 64 1)) : Nat) : Int) != 0) = bitI e 1 := rfl
  have hL : (IntKind.wrap .i64 (((BitVec.toNat (BitVec.ofInt 64 (e : Int) &&& BitVec.ofInt 64 14)) : Nat) : Int) != 0) = bitI e 14 := rfl
  rw [hV', hV, hL]
  cases b with
  | true =>
    cases bitI e 1 with
    | true => rfl
    | false => rw [cond_true, cond_false, spec_SetWord_eq N hat hs]; rfl
  | false =>
    cases bitI e 1 with
    | true =>
      cases bitI e 14 with
      | true => rfl
      | false =>
        rw [cond_false, cond_true, oK_some_eq, cond_false, Bool.not_true, cond_false]
        exact last_eq N hs (by omega) (fun s c => k s m m1 m2 c)
    | false =>
      by_cases h0 : m1 = 0
      · subst h0
        rw [cond_false, cond_false, oK_some_eq, cond_false, Bool.not_false, cond_true, show (((0 : Nat) : Int) == 0) = true from rfl, cond_true]
        rfl
      · obtain ⟨x, hx⟩ := nth_some (l := l) (n := 0 + m) (by omega)
        obtain ⟨y, rfl, hy⟩ := hl x (nth_mem hx)
        have hn : nxt l m m1 = some y := by
          unfold nxt
          rw [if_neg h0]
          rw [Nat.zero_add] at hx
          rw [hx]
          rfl
        rw [hn]
        have ey : IntKind.wrap .i64 ((y : Int) * 256) = ((y * 256 : Nat) : Int) := by rw [w64 (by omega) (by omega)]; omega
        have ey1 : IntKind.wrap .i64 (IntKind.wrap .i64 ((y : Int) + 1) * 256) = (((y + 1) * 256 : Nat) : Int) := by rw [w64 (n := (y : Int) + 1) (by omega) (by omega), w64 (by omega) (by omega)]; omega
        have eo : IntKind.wrap .i64 (((BitVec.toNat (BitVec.ofInt 64 ((y * 256 : Nat) : Int) ||| BitVec.ofInt 64 (1 : Int))) : Nat) : Int) = ((y * 256 ||| 1 : Nat) : Int) := or_nat (a := y * 256) (b := 1) (by omega) (by omega)
        have ho : y * 256 ||| 1 < 2 ^ 17 := Nat.or_lt_two_pow (by omega) (by omega)
        have hz : (toBytes (seg (List.replicate 256 (0 : Int)) 0 256)).size = 256 := by
          have hq := seg_all (List.replicate 256 (0 : Int))
          rw [List.length_replicate] at hq
          rw [hq, toBytes_size, List.length_replicate]
        have hS : (zeroF s y).size = s.size := zeroF_size hy
        have g1 : (s.extract 0 (y * 256)).size = y * 256 := by rw [ByteArray.size_extract]; omega
        have g2 : (s.extract ((y + 1) * 256) s.size).size = s.size - (y + 1) * 256 := by rw [ByteArray.size_extract]; omega
        have q1 : Nat.ble ((s.extract 0 (y * 256)).size + 256) 9223372036854775807 = true := ble_max (by rw [g1]; exact fr1 hy hs)
        have q2 : Nat.ble ((s.extract 0 (y * 256) ++ toBytes (seg (List.replicate 256 (0 : Int)) 0 256)).size + (s.extract ((y + 1) * 256) s.size).size) 9223372036854775807 = true := ble_max (by rw [ByteArray.size_append, g1, g2, hz]; exact fr2 hy hs)
        have hSS : (s.extract 0 (y * 256) ++ toBytes (seg (List.replicate 256 (0 : Int)) 0 256)) ++ s.extract ((y + 1) * 256) s.size = zeroF s y := rfl
        have hT := setWord_size (s := zeroF s y) (i := r * 256 + 4 * (v / 8192)) (by omega) ((y * 256 ||| 1 : Nat) : Int)
        rw [cond_false, cond_false, oK_some_eq, cond_false, Bool.not_false, cond_true, beq_dec, decide_eq_false (show ¬ (m1 : Int) = 0 by omega), cond_false, decide_eq_true (show (0 : Int) < (m1 : Int) by omega), cond_true, elemK_some hx,
          decide_eq_true (show (1 : Int) ≤ (m1 : Int) by omega), decide_eq_true (show (m1 : Int) ≤ ((m1 + m2 : Nat) : Int) by omega), Bool.and_self, cond_true, ey, ey1, eo, dec_nn, decide_eq_true (show ((y * 256 : Nat) : Int) ≤ (s.size : Int) by omega), Bool.and_self, cond_true, Int.toNat_natCast, Int.toNat_natCast, Int.toNat_natCast,
          q1, cond_true, dec_nn, decide_eq_true (show (((y + 1) * 256 : Nat) : Int) ≤ (s.size : Int) by omega), decide_eq_true (Int.le_refl (s.size : Int)), Bool.and_self, Bool.and_self, cond_true, q2, cond_true, hSS, spec_SetWord_eq N (by omega) (by omega)]
        have hm2 : (m1 + m2) - Int.toNat (m1 : Int) = m2 := by omega
        have hm1 : Int.toNat (m1 : Int) - 1 = m1 - 1 := by omega
        have := last_eq N (s := setWord (zeroF s y) (r * 256 + 4 * (v / 8192)) ((y * 256 ||| 1 : Nat) : Int)) (e := y * 256 ||| 1) (v := v) (w := pteW n2 n3) (by omega) (by omega) (fun s c => k s (1 + m) ((Int.toNat (m1 : Int)) - 1) ((m1 + m2) - Int.toNat (m1 : Int)) c)
        refine Eq.trans this ?_
        rw [hm2, hm1]
        rfl


theorem map_w_eq {s : ByteArray} {r : Nat} {n1 n2 n3 : Int} {b b1 : Bool} {l : List Int} (hs : s.size ≤ 65536) (h256 : s.size % 256 = 0) (hr : r < s.size / 256) (hl : ∀ x ∈ l, ∃ y : Nat, x = (y : Int) ∧ y < s.size / 256) (k : ByteArray → Int → Option R) (k1 : ByteArray → Nat → Nat → Int → Option R) :
    g_spec_l03Map_w N s (r : Int) n1 n2 n3 b b1 l k k1 = cond (mapOne s r n1 n2 n3 b (nxt l 0 l.length)).took (k1 (mapOne s r n1 n2 n3 b (nxt l 0 l.length)).mem (l.length - 1) 0 (mapOne s r n1 n2 n3 b (nxt l 0 l.length)).code) (k (mapOne s r n1 n2 n3 b (nxt l 0 l.length)).mem (mapOne s r n1 n2 n3 b (nxt l 0 l.length)).code) := by
  have hj : g_spec_l03Map_w N s (r : Int) n1 n2 n3 b b1 l k k1 = oK (cond b (some (8192 : Int)) (some (256 : Int))) fun j => oK (cond (decide (n1 < 0)) (some true) (cond (decide (n1 ≥ 262144)) (some true) (mapForm n1 n2 n3 j b))) _ := rfl
  have hc : (cond b (some (8192 : Int)) (some (256 : Int))) = some (cond b 8192 256) := by cases b <;> rfl
  have hB : (cond (decide (n1 < 0)) (some true) (cond (decide (n1 ≥ 262144)) (some true) (mapForm n1 n2 n3 (cond b 8192 256) b))) = some (mapBad n1 n2 n3 b) := by
    unfold mapBad
    obtain ⟨bad, hbad⟩ := mapForm_ex n1 n2 n3 (cond b 8192 256) b (by cases b <;> decide)
    rw [hbad]
    cases decide (n1 < 0) <;> cases decide (n1 ≥ 262144) <;> rfl
  rw [hj, hc, oK_some_eq, hB, oK_some_eq]
  unfold mapOne
  cases hbb : mapBad n1 n2 n3 b with
  | true => rfl
  | false =>
  have hrange : 0 ≤ n1 ∧ n1 < 262144 := by
    unfold mapBad at hbb
    rw [Bool.or_eq_false_iff, Bool.or_eq_false_iff] at hbb
    have a := of_decide_eq_false hbb.1
    have c := of_decide_eq_false hbb.2.1
    omega
  obtain ⟨v, rfl⟩ := Int.eq_ofNat_of_zero_le hrange.1
  have hv : v < 262144 := by omega
  clear hB hj hc hbb
  rw [cond_false, cond_false, show Int.toNat ((v : Nat) : Int) = v from rfl]
  have hd : v / 8192 < 32 := by omega
  have hat : (r * 256 + 4 * (v / 8192)) + 4 ≤ s.size := by omega
  have he := wordN_lt s (r * 256 + 4 * (v / 8192))
  rw [at_eq (by omega) hv, spec_l01Word_eq N hat (by omega), wordN_cast]
  unfold mapOut mapOutE
  rw [ent_eq]
  generalize hw0 : wordN s (r * 256 + 4 * (v / 8192)) = e at he ⊢
  have hV' : (IntKind.wrap .i64 (((BitVec.toNat (BitVec.ofInt 64 (e : Int) &&& BitVec.ofInt 64 1)) : Nat) : Int) == 0) = !(bitI e 1) := by
    unfold bitI
    rw [bne, Bool.not_not]
  have hV : (IntKind.wrap .i64 (((BitVec.toNat (BitVec.ofInt 64 (e : Int) &&& BitVec.ofInt 64 1)) : Nat) : Int) != 0) = bitI e 1 := rfl
  have hL : (IntKind.wrap .i64 (((BitVec.toNat (BitVec.ofInt 64 (e : Int) &&& BitVec.ofInt 64 14)) : Nat) : Int) != 0) = bitI e 14 := rfl
  rw [hV', hV, hL]
  cases b with
  | true =>
    cases bitI e 1 with
    | true => rw [cond_true, cond_true, cond_true, cond_true, cond_false]
    | false => rw [cond_true, cond_false, spec_SetWord_eq N hat hs, cond_true, cond_false, cond_false]; rfl
  | false =>
    cases bitI e 1 with
    | true =>
      cases bitI e 14 with
      | true => rw [cond_false, cond_true, oK_some_eq, cond_true, cond_false, cond_true, cond_true, cond_false]
      | false =>
        rw [cond_false, cond_true, oK_some_eq, cond_false, Bool.not_true, cond_false]
        exact last_eq N hs (by omega) k
    | false =>
      by_cases h0 : l.length = 0
      · rw [cond_false, cond_false, oK_some_eq, cond_false, Bool.not_false, cond_true, h0, show (((0 : Nat) : Int) == 0) = true from rfl, cond_true]
        rfl
      · obtain ⟨x, hx⟩ := nth_some (l := l) (n := 0) (by omega)
        obtain ⟨y, rfl, hy⟩ := hl x (nth_mem hx)
        have hn : nxt l 0 l.length = some y := by
          unfold nxt
          rw [if_neg h0]
          rw [hx]
          rfl
        rw [hn]
        have ey : IntKind.wrap .i64 ((y : Int) * 256) = ((y * 256 : Nat) : Int) := by rw [w64 (by omega) (by omega)]; omega
        have ey1 : IntKind.wrap .i64 (IntKind.wrap .i64 ((y : Int) + 1) * 256) = (((y + 1) * 256 : Nat) : Int) := by rw [w64 (n := (y : Int) + 1) (by omega) (by omega), w64 (by omega) (by omega)]; omega
        have eo : IntKind.wrap .i64 (((BitVec.toNat (BitVec.ofInt 64 ((y * 256 : Nat) : Int) ||| BitVec.ofInt 64 (1 : Int))) : Nat) : Int) = ((y * 256 ||| 1 : Nat) : Int) := or_nat (a := y * 256) (b := 1) (by omega) (by omega)
        have ho : y * 256 ||| 1 < 2 ^ 17 := Nat.or_lt_two_pow (by omega) (by omega)
        have hz : (toBytes (seg (List.replicate 256 (0 : Int)) 0 256)).size = 256 := by
          have hq := seg_all (List.replicate 256 (0 : Int))
          rw [List.length_replicate] at hq
          rw [hq, toBytes_size, List.length_replicate]
        have hS : (zeroF s y).size = s.size := zeroF_size hy
        have g1 : (s.extract 0 (y * 256)).size = y * 256 := by rw [ByteArray.size_extract]; omega
        have g2 : (s.extract ((y + 1) * 256) s.size).size = s.size - (y + 1) * 256 := by rw [ByteArray.size_extract]; omega
        have q1 : Nat.ble ((s.extract 0 (y * 256)).size + 256) 9223372036854775807 = true := ble_max (by rw [g1]; exact fr1 hy hs)
        have q2 : Nat.ble ((s.extract 0 (y * 256) ++ toBytes (seg (List.replicate 256 (0 : Int)) 0 256)).size + (s.extract ((y + 1) * 256) s.size).size) 9223372036854775807 = true := ble_max (by rw [ByteArray.size_append, g1, g2, hz]; exact fr2 hy hs)
        have hSS : (s.extract 0 (y * 256) ++ toBytes (seg (List.replicate 256 (0 : Int)) 0 256)) ++ s.extract ((y + 1) * 256) s.size = zeroF s y := rfl
        have hT := setWord_size (s := zeroF s y) (i := r * 256 + 4 * (v / 8192)) (by omega) ((y * 256 ||| 1 : Nat) : Int)
        rw [cond_false, cond_false, oK_some_eq, cond_false, Bool.not_false, cond_true, beq_dec, decide_eq_false (show ¬ (l.length : Int) = 0 by omega), cond_false, decide_eq_true (show (0 : Int) < (l.length : Int) by omega), cond_true, elemK_some hx,
          decide_eq_true (show (1 : Int) ≤ (l.length : Int) by omega), decide_eq_true (Int.le_refl (l.length : Int)), Bool.and_self, cond_true, ey, ey1, eo, dec_nn, decide_eq_true (show ((y * 256 : Nat) : Int) ≤ (s.size : Int) by omega), Bool.and_self, cond_true, Int.toNat_natCast, Int.toNat_natCast, Int.toNat_natCast,
          q1, cond_true, dec_nn, decide_eq_true (show (((y + 1) * 256 : Nat) : Int) ≤ (s.size : Int) by omega), decide_eq_true (Int.le_refl (s.size : Int)), Bool.and_self, Bool.and_self, cond_true, q2, cond_true, hSS, spec_SetWord_eq N (by omega) (by omega)]
        have hm2 : l.length - Int.toNat (l.length : Int) = 0 := by omega
        have hm1 : Int.toNat (l.length : Int) - 1 = l.length - 1 := by omega
        have := last_eq N (s := setWord (zeroF s y) (r * 256 + 4 * (v / 8192)) ((y * 256 ||| 1 : Nat) : Int)) (e := y * 256 ||| 1) (v := v) (w := pteW n2 n3) (by omega) (by omega) (fun s c => k1 s ((Int.toNat (l.length : Int)) - 1) (l.length - Int.toNat (l.length : Int)) c)
        refine Eq.trans this ?_
        rw [hm2, hm1]
        rfl


structure RunOut where
  mem : ByteArray
  took : Nat
  code : Int
  at_ : Nat

def stepM (s : ByteArray) (r : Nat) (x : PageMap) (free : List Int) (p : Nat) : MapOut := mapOne s r x.fVa x.fFrame x.fFlags x.fLarge (nxt free p (free.length - p))

def runM (r : Nat) (free : List Int) (maps : List PageMap) : Nat → Nat → ByteArray → Nat → RunOut
  | 0, _, s, p => ⟨s, p, 0, 0⟩
  | d + 1, i, s, p =>
    match nth maps i with
    | none => ⟨s, p, 0, 0⟩
    | some x => cond ((stepM s r x free p).code != 0) ⟨(stepM s r x free p).mem, p, (stepM s r x free p).code, i⟩
        (runM r free maps d (i + 1) (stepM s r x free p).mem (cond (stepM s r x free p).took (1 + p) p))

theorem runM_some {r : Nat} {free : List Int} {maps : List PageMap} {d i p : Nat} {s : ByteArray} {x : PageMap} (hx : nth maps i = some x) : runM r free maps (d + 1) i s p = cond ((stepM s r x free p).code != 0) ⟨(stepM s r x free p).mem, p, (stepM s r x free p).code, i⟩
        (runM r free maps d (i + 1) (stepM s r x free p).mem (cond (stepM s r x free p).took (1 + p) p)) := by
  rw [runM, hx]

theorem mapOut_size {s : ByteArray} {r v : Nat} {n2 n3 : Int} {b : Bool} {free : Option Nat} (h256 : s.size % 256 = 0) (hr : r < s.size / 256) (hv : v < 262144) (hf : ∀ y, free = some y → y < s.size / 256) : (mapOut s r v n2 n3 b free).mem.size = s.size := by
  have hat : ∀ S : ByteArray, S.size = s.size → ent r (v / 8192) + 4 ≤ S.size := fun S h => by
    rw [ent_eq, h]; omega
  unfold mapOut mapOutE
  generalize wordN s (ent r (v / 8192)) = e
  cases b with
  | true =>
    cases bitI e 1 with
    | true => rfl
    | false => exact setWord_size (hat s rfl) _
  | false =>
    cases bitI e 1 with
    | true =>
      cases bitI e 14 with
      | true => rfl
      | false => exact lastOut_size
    | false =>
      cases free with
      | none => rfl
      | some y =>
        have hz := zeroF_size (hf y rfl)
        exact Eq.trans lastOut_size (Eq.trans (setWord_size (hat _ hz) _) hz)

theorem mapOne_size {s : ByteArray} {r : Nat} {n1 n2 n3 : Int} {b : Bool} {free : Option Nat} (h256 : s.size % 256 = 0) (hr : r < s.size / 256) (hf : ∀ y, free = some y → y < s.size / 256) : (mapOne s r n1 n2 n3 b free).mem.size = s.size := by
  unfold mapOne
  cases hbb : mapBad n1 n2 n3 b with
  | true => rfl
  | false =>
    unfold mapBad at hbb
    rw [Bool.or_eq_false_iff, Bool.or_eq_false_iff] at hbb
    have a := of_decide_eq_false hbb.1
    have c := of_decide_eq_false hbb.2.1
    rw [cond_false]
    exact mapOut_size h256 hr (by omega) hf

theorem nxt_lt {l : List Int} {p z : Nat} (hl : ∀ x ∈ l, ∃ y : Nat, x = (y : Int) ∧ y < z) : ∀ y, nxt l p (l.length - p) = some y → y < z := by
  intro y h
  unfold nxt at h
  split at h
  · cases h
  · obtain ⟨x, hx⟩ := nth_some (l := l) (n := p) (by omega)
    obtain ⟨w, rfl, hw⟩ := hl x (nth_mem hx)
    rw [hx] at h
    injection h with h
    rw [← h]
    exact hw

theorem stepM_size {s : ByteArray} {r : Nat} {x : PageMap} {free : List Int} {p : Nat} (h256 : s.size % 256 = 0) (hr : r < s.size / 256) (hl : ∀ x ∈ free, ∃ y : Nat, x = (y : Int) ∧ y < s.size / 256) : (stepM s r x free p).mem.size = s.size :=
  mapOne_size h256 hr (nxt_lt hl)

theorem stepM_took {s : ByteArray} {r : Nat} {x : PageMap} {free : List Int} {p : Nat} (h : (stepM s r x free p).took = true) : p < free.length := by
  by_cases hp : p < free.length
  · exact hp
  · exfalso
    have hn : nxt free p (free.length - p) = none := by unfold nxt; rw [if_pos (by omega)]
    unfold stepM at h
    rw [hn] at h
    unfold mapOne at h
    revert h
    cases mapBad x.fVa x.fFrame x.fFlags x.fLarge with
    | true => intro h; cases h
    | false =>
      rw [cond_false]
      unfold mapOut mapOutE
      cases x.fLarge <;> cases bitI (wordN s (ent r (x.fVa.toNat / 8192))) 1 <;> cases bitI (wordN s (ent r (x.fVa.toNat / 8192))) 14 <;> (intro h; cases h)

theorem runM_took_le {r : Nat} {free : List Int} {maps : List PageMap} : ∀ (d i : Nat) (s : ByteArray) (p : Nat), p ≤ (runM r free maps d i s p).took := by
  intro d
  induction d with
  | zero => intro i s p; exact Nat.le_refl _
  | succ d ih =>
    intro i s p
    rw [runM]
    cases nth maps i with
    | none => exact Nat.le_refl _
    | some x =>
      show p ≤ (cond ((stepM s r x free p).code != 0) _ _ : RunOut).took
      cases ((stepM s r x free p).code != 0) with
      | true => exact Nat.le_refl _
      | false =>
        rw [cond_false]
        refine Nat.le_trans ?_ (ih _ _ _)
        cases (stepM s r x free p).took
        · exact Nat.le_refl _
        · show p ≤ 1 + p; omega

theorem mapsv_ww_run {r : Nat} {b11 b12 b13 : Bool} {l10 : List PageMap} {l11 l12 l13 : List Int} {n14 n15 : Int} {s8 : ByteArray} (hlen : l10.length ≤ 1000)
    (kR : ByteArray → Nat → Nat → Nat → Bool → (List PageMap) → (List Int) → Int → Int → (List Int) → Option R) (kN : ByteArray → Nat → Nat → Nat → Bool → (List PageMap) → (List Int) → Int → Int → ByteArray → Bool → (List Int) → (List Int) → Option R) (Kc : Int → Int → Option R) (hR : ∀ s m m1 m2 c p, kR s m m1 m2 b12 l10 l11 c p l13 = Kc c p) :
    ∀ (d f i : Nat) (s : ByteArray) (p : Nat), i + d = l10.length → d < f → s.size ≤ 65536 → s.size % 256 = 0 → r < s.size / 256 → p ≤ l13.length → (∀ x ∈ l13, ∃ y : Nat, x = (y : Int) ∧ y < s.size / 256) →
    l_spec_MapPages_ww_2 N (r : Int) b11 b12 l10 l11 n14 n15 s8 b13 l12 l13 kR kN f s p (l13.length - p) 0 (i : Int) =
      cond ((runM r l13 l10 d i s p).code != 0) (Kc (runM r l13 l10 d i s p).code ((runM r l13 l10 d i s p).at_ : Nat))
        (kN (runM r l13 l10 d i s p).mem (runM r l13 l10 d i s p).took (l13.length - (runM r l13 l10 d i s p).took) 0 b12 l10 l11 n14 n15 s8 b13 l12 l13) := by
  intro d
  induction d with
  | zero =>
    intro f i s p hi hf _ _ _ hw _
    obtain ⟨f, rfl⟩ : ∃ j, f = j + 1 := ⟨f - 1, by omega⟩
    rw [l_spec_MapPages_ww_2, s_spec_MapPages_ww_2, decide_eq_false (show ¬ (i : Int) < (l10.length : Int) by omega), cond_false]
    rfl
  | succ d ih =>
    intro f i s p hi hf hs h256 hr hw hl
    obtain ⟨f, rfl⟩ : ∃ j, f = j + 1 := ⟨f - 1, by omega⟩
    have hlt : i < l10.length := by omega
    obtain ⟨x, hx⟩ := nth_some hlt
    have hz := stepM_size (x := x) (p := p) h256 hr hl
    have ht := @stepM_took s r x l13 p
    have h1 := fun k => map_v1_eq (R := R) N (n1 := x.fVa) (n2 := x.fFrame) (n3 := x.fFlags) (b := x.fLarge) (b1 := b12) (m := p) (m1 := l13.length - p) (m2 := 0) hs h256 hr (by omega) hl k
    have e1 : mapOne s r x.fVa x.fFrame x.fFlags x.fLarge (nxt l13 p (l13.length - p)) = stepM s r x l13 p := rfl
    rw [runM_some hx, l_spec_MapPages_ww_2, s_spec_MapPages_ww_2, dec_lt hlt, cond_true, dec_nn, Bool.and_self, cond_true, Int.toNat_natCast, elemK_some hx, h1, e1]
    generalize stepM s r x l13 p = o at hz ht ⊢
    cases hc : (o.code != 0) with
    | true => rw [cond_true, cond_true, hR, hc, cond_true]
    | false =>
      rw [cond_false, cond_false, wrap_next hlt (by omega)]
      cases hto : o.took with
      | false =>
        rw [cond_false, cond_false]
        exact ih f (i + 1) o.mem p (by omega) (by omega) (by omega) (by omega) (by omega) hw (by rw [hz]; exact hl)
      | true =>
        have hp := ht hto
        rw [cond_true, cond_true, show l13.length - p - 1 = l13.length - (1 + p) by omega]
        exact ih f (i + 1) o.mem (1 + p) (by omega) (by omega) (by omega) (by omega) (by omega) (by omega) (by rw [hz]; exact hl)

theorem mapsw_ww_run {r : Nat} {b8 b9 b10 : Bool} {l6 : List PageMap} {l7 l8 l9 : List Int} {n8 n9 : Int} {s4 : ByteArray} (hlen : l6.length ≤ 1000)
    (kRb : ByteArray → Int → Int → Option R) (kRb_1 : ByteArray → Nat → Nat → Int → Int → Option R) (kNb : ByteArray → Option R) (kR : ByteArray → Nat → Nat → Nat → Bool → (List PageMap) → (List Int) → Int → Int → (List Int) → Option R) (kN : ByteArray → Nat → Nat → Nat → Bool → (List PageMap) → (List Int) → Int → Int → ByteArray → Bool → (List Int) → (List Int) → Option R) (Kc : Int → Int → Option R)
    (hR : ∀ s m m1 m2 c p, kR s m m1 m2 b9 l6 l7 c p l9 = Kc c p) (hRb : ∀ s c p, kRb s c p = Kc c p) (hRb1 : ∀ s m m1 c p, kRb_1 s m m1 c p = Kc c p) :
    ∀ (d f i : Nat) (s : ByteArray), i + d = l6.length → d < f → s.size ≤ 65536 → s.size % 256 = 0 → r < s.size / 256 → (∀ x ∈ l9, ∃ y : Nat, x = (y : Int) ∧ y < s.size / 256) →
    l_spec_MapPages_ww_2b1 N (r : Int) b8 b9 l6 l7 n8 n9 s4 b10 l8 l9 kRb kRb_1 kNb kR kN f s (i : Int) =
      cond ((runM r l9 l6 d i s 0).code != 0) (Kc (runM r l9 l6 d i s 0).code ((runM r l9 l6 d i s 0).at_ : Nat))
        (cond (Nat.beq (runM r l9 l6 d i s 0).took 0) (kNb (runM r l9 l6 d i s 0).mem) (kN (runM r l9 l6 d i s 0).mem (runM r l9 l6 d i s 0).took (l9.length - (runM r l9 l6 d i s 0).took) 0 b9 l6 l7 n8 n9 s4 b10 l8 l9)) := by
  intro d
  induction d with
  | zero =>
    intro f i s hi hf _ _ _ _
    obtain ⟨f, rfl⟩ : ∃ j, f = j + 1 := ⟨f - 1, by omega⟩
    rw [l_spec_MapPages_ww_2b1, s_spec_MapPages_ww_2b1, decide_eq_false (show ¬ (i : Int) < (l6.length : Int) by omega), cond_false]
    rfl
  | succ d ih =>
    intro f i s hi hf hs h256 hr hl
    obtain ⟨f, rfl⟩ : ∃ j, f = j + 1 := ⟨f - 1, by omega⟩
    have hlt : i < l6.length := by omega
    obtain ⟨x, hx⟩ := nth_some hlt
    have hz := stepM_size (x := x) (p := 0) h256 hr hl
    have ht := @stepM_took s r x l9 0
    have h1 := fun k k1 => map_w_eq (R := R) N (n1 := x.fVa) (n2 := x.fFrame) (n3 := x.fFlags) (b := x.fLarge) (b1 := b9) hs h256 hr hl k k1
    have e1 : mapOne s r x.fVa x.fFrame x.fFlags x.fLarge (nxt l9 0 l9.length) = stepM s r x l9 0 := rfl
    rw [runM_some hx, l_spec_MapPages_ww_2b1, s_spec_MapPages_ww_2b1, dec_lt hlt, cond_true, dec_nn, Bool.and_self, cond_true, Int.toNat_natCast, elemK_some hx, h1, e1]
    generalize stepM s r x l9 0 = o at hz ht ⊢
    cases hc : (o.code != 0) with
    | true =>
      cases hto : o.took with
      | false => rw [cond_false, cond_true, cond_true, hRb, hc, cond_true]
      | true => rw [cond_true, cond_true, cond_true, hRb1, hc, cond_true]
    | false =>
      cases hto : o.took with
      | false =>
        rw [cond_false, cond_false, cond_false, wrap_next hlt (by omega), cond_false]
        exact ih f (i + 1) o.mem (by omega) (by omega) (by omega) (by omega) (by omega) (by rw [hz]; exact hl)
      | true =>
        have hp := ht hto
        rw [cond_true, cond_false, cond_false, wrap_next hlt (by omega), cond_true]
        have hq := runM_took_le (r := r) (free := l9) (maps := l6) d (i + 1) o.mem (1 + 0)
        have hb : Nat.beq (runM r l9 l6 d (i + 1) o.mem (1 + 0)).took 0 = false := by
          rw [← Bool.not_eq_true, Nat.beq_eq]; omega
        rw [hb, cond_false]
        exact mapsv_ww_run N hlen kR kN Kc hR d f (i + 1) o.mem (1 + 0) (by omega) (by omega) (by omega) (by omega) (by omega) (by omega) (by rw [hz]; exact hl)

theorem MapPages_ww_eq {s : ByteArray} {r : Nat} {b b1 : Bool} {l : List PageMap} {l1 : List Int} (hs : s.size ≤ 65536) (h256 : s.size % 256 = 0) (hm : memOk s = true) (hr : r < s.size / 256) (hlen : l.length ≤ 1000) (h1 : l1.length ≤ 1000) (hl : ∀ x ∈ l1, ∃ y : Nat, x = (y : Int) ∧ y < s.size / 256) (hN : 2 ^ 40 < N) :
    ∃ b' : Bool, ∀ (k : Int → Int → ByteArray → Bool → (List PageMap) → (List Int) → (List Int) → Option R) (k_1 : ByteArray → Nat → Nat → Nat → Bool → (List PageMap) → (List Int) → (List Int) → Option R),
      g_spec_MapPages_ww N s (r : Int) b b1 l l1 k k_1 = cond ((runM r l1 l l.length 0 s 0).code != 0) (k (runM r l1 l l.length 0 s 0).code ((runM r l1 l l.length 0 s 0).at_ : Nat) ⟨[].toArray⟩ true l l1 [])
        (cond (Nat.beq (runM r l1 l l.length 0 s 0).took 0) (k 0 0 (runM r l1 l l.length 0 s 0).mem b' l l1 l1) (k_1 (runM r l1 l l.length 0 s 0).mem (runM r l1 l l.length 0 s 0).took (l1.length - (runM r l1 l l.length 0 s 0).took) 0 b' l l1 l1)) := by
  refine ⟨cond (Nat.beq l1.length 0) false false, fun k k_1 => ?_⟩
  unfold g_spec_MapPages_ww c_spec_MapPages_ww_0 g_spec_l01Ints_w c_spec_MapPages_ww_2b1
  rw [decide_eq_false (show ¬ (s.size : Int) > 65536 by omega), cond_false, decide_eq_false (show ¬ (l.length : Int) > 1000 by omega), cond_false, decide_eq_false (show ¬ (l1.length : Int) > 1000 by omega), oK_some_eq, cond_false, spec_MemFault_eq, hm, cond_true, bne_self_eq_false, cond_false, l03In_yes N hs hr, Bool.not_true, oK_some_eq, cond_false, room (by omega) (by omega), cond_true, List.nil_append]
  refine (mapsI_ww N hs h1 hl _ _ l1.length N 0 (by omega) (by omega)).trans ?_
  exact mapsw_ww_run N hlen _ _ _ _ _ (fun c p => k c p ⟨[].toArray⟩ true l l1 []) (fun _ _ _ _ _ _ => rfl) (fun _ _ _ => rfl) (fun _ _ _ _ _ => rfl) l.length N 0 s (by omega) (by omega) hs h256 hr hl


theorem zer256_size : (toBytes (seg (List.replicate 256 (0 : Int)) 0 256)).size = 256 := by
  have hq := seg_all (List.replicate 256 (0 : Int))
  rw [List.length_replicate] at hq
  rw [hq, toBytes_size, List.length_replicate]

theorem bt_zeroF {s : ByteArray} {y j : Nat} (hy : y < s.size / 256) (hj : j < y * 256 ∨ y * 256 + 256 ≤ j) : bt (zeroF s y) j = bt s j := by
  have hz : (s.extract 0 (y * 256)).size = y * 256 := by rw [ByteArray.size_extract]; omega
  have hz2 : (s.extract 0 (y * 256) ++ toBytes (seg (List.replicate 256 (0 : Int)) 0 256)).size = y * 256 + 256 := by rw [ByteArray.size_append, hz, zer256_size]
  rcases hj with hj | hj
  · unfold zeroF
    rw [bt_append_left (by omega), bt_append_left (by omega)]
    have := bt_extract (s := s) (a := 0) (b := y * 256) (i := j) (by omega)
    rw [this, Nat.zero_add]
  · by_cases hs : j < s.size
    · obtain ⟨d, rfl⟩ : ∃ d, j = (y * 256 + 256) + d := ⟨j - (y * 256 + 256), by omega⟩
      unfold zeroF
      have := bt_append_right (s := s.extract 0 (y * 256) ++ toBytes (seg (List.replicate 256 (0 : Int)) 0 256)) (t := s.extract ((y + 1) * 256) s.size) d
      rw [hz2] at this
      rw [this, bt_extract (by omega)]
      exact congrArg (bt s) (by omega)
    · rw [bt_ge (by rw [zeroF_size hy]; omega), bt_ge (by omega)]

theorem wordN_zeroF {s : ByteArray} {y j : Nat} (hy : y < s.size / 256) (hj : j + 4 ≤ y * 256 ∨ y * 256 + 256 ≤ j) : wordN (zeroF s y) j = wordN s j := by
  unfold wordN wordAt
  rw [bt_zeroF hy (by omega), bt_zeroF hy (by omega), bt_zeroF hy (by omega), bt_zeroF hy (by omega)]

theorem bitI_eq (e c : Nat) (hc : c < 256) : bitI e (c : Int) = !((low8 e &&& c) == 0) := by
  unfold bitI
  rw [and_low _ c hc, bne]
  congr 1
  rw [Bool.eq_iff_iff]
  simp

theorem low8_q (q c : Nat) (hc : c < 256) : low8 ((q * 256 + c : Nat) : Int) = c := by unfold low8; omega

theorem or256 (q c : Nat) (hc : c < 256) : q * 256 ||| c = q * 256 + c := by
  have := Nat.two_pow_add_eq_or_of_lt (i := 8) (b := c) hc q
  rw [show 2 ^ 8 * q = q * 256 by omega] at this
  exact this.symm

theorem pteW_host {f : Nat} (hf : f < 1024) : pteW (f : Int) 6 = ((f * 256 + 7 : Nat) : Int) := by
  unfold pteW
  have e1 : IntKind.wrap .i64 ((f : Int) * 256) = ((f * 256 : Nat) : Int) := by rw [w64 (by omega) (by omega)]; omega
  have e2 : IntKind.wrap .i64 (((BitVec.ofInt 64 ((f * 256 : Nat) : Int) ||| BitVec.ofInt 64 (6 : Int)).toNat : Nat) : Int) = ((f * 256 ||| 6 : Nat) : Int) := or_nat (a := f * 256) (b := 6) (by omega) (by omega)
  have e3 : IntKind.wrap .i64 (((BitVec.ofInt 64 ((f * 256 ||| 6 : Nat) : Int) ||| BitVec.ofInt 64 (1 : Int)).toNat : Nat) : Int) = (((f * 256 ||| 6) ||| 1 : Nat) : Int) := or_nat (a := f * 256 ||| 6) (b := 1) (by rw [or256 _ _ (by omega)]; omega) (by omega)
  have e4 : (f * 256 ||| 6) ||| 1 = f * 256 + 7 := by rw [Nat.or_assoc, show (6 ||| 1 : Nat) = 7 from rfl, or256 _ _ (by omega)]
  rw [e1, e2, e3, e4]

def hostMap (i : Nat) : PageMap := ⟨((i * 256 : Nat) : Int), ((8 + i : Nat) : Int), 6, false⟩

def hostFree : List Int := [1, 2, 3, 4, 5, 6, 7]

theorem free_nxt : ∀ q, q < 7 → nxt hostFree q (hostFree.length - q) = some (1 + q) := by decide +kernel

theorem host_good {i : Nat} (hi : i < 200) : mapBad ((i * 256 : Nat) : Int) ((8 + i : Nat) : Int) 6 false = false := by
  unfold mapBad mapForm
  rw [decide_eq_false (show ¬ (((i * 256 : Nat) : Int) < 0) by omega), decide_eq_false (show ¬ (((i * 256 : Nat) : Int) ≥ 262144) by omega), cond_false, tmod_nn (by omega), show (((i * 256 : Nat) : Int) % 256) = 0 by omega, decide_eq_false (show ¬ (((8 + i : Nat) : Int) < 0) by omega), decide_eq_false (show ¬ (((8 + i : Nat) : Int) > 1023) by omega)]
  rfl

theorem div8 (i : Nat) : i * 256 / 8192 = i / 32 := by omega

theorem div9 (i : Nat) : i * 256 / 256 % 32 = i % 32 := by omega

theorem div10 (p : Nat) : ((1 + p) * 256 + 1) / 256 = 1 + p := by omega

structure HInv (s0 s : ByteArray) (i p : Nat) : Prop where
  sz : s.size = s0.size
  pp : p = (i + 31) / 32
  nil : ∀ r, r < 32 → i ≤ 32 * r → wordN s (ent 0 r) = 0
  root : ∀ r, 32 * r < i → wordN s (ent 0 r) = (1 + r) * 256 + 1
  leaf : ∀ j, j < i → wordN s (ent (1 + j / 32) (j % 32)) = (8 + j) * 256 + 7
  out : ∀ q, 2048 ≤ q → bt s q = bt s0 q

theorem last_two (s : ByteArray) (e v : Nat) (w : Int) : (lastOut s e v w).2 ≠ 0 ∨ lastOut s e v w = (setWord s (ent (e / 256) (v / 256 % 32)) w, 0) := by
  unfold lastOut
  split
  · exact .inl (fun h => absurd (show (9 : Int) = 0 from h) (by decide))
  · split
    · exact .inl (fun h => absurd (show (9 : Int) = 0 from h) (by decide))
    · exact .inr rfl

theorem stepM_host (s : ByteArray) {i p : Nat} (hi : i < 200) : stepM s 0 (hostMap i) hostFree p = mapOutE s 0 (i * 256) (wordN s (ent 0 (i / 32))) ((8 + i : Nat) : Int) 6 false (nxt hostFree p (hostFree.length - p)) := by
  unfold stepM mapOne
  have h : mapBad (hostMap i).fVa (hostMap i).fFrame (hostMap i).fFlags (hostMap i).fLarge = false := host_good hi
  rw [h, cond_false]
  unfold mapOut
  have e : (hostMap i).fVa.toNat = i * 256 := rfl
  rw [e, show i * 256 / 8192 = i / 32 by omega]
  rfl

theorem host_step {s0 s : ByteArray} {i p : Nat} (h : HInv s0 s i p) (hi : i < 200) (h8 : 2048 ≤ s0.size) :
    (stepM s 0 (hostMap i) hostFree p).code ≠ 0 ∨ HInv s0 (stepM s 0 (hostMap i) hostFree p).mem (i + 1) (cond (stepM s 0 (hostMap i) hostFree p).took (1 + p) p) := by
  have hsz := h.sz
  have hpp := h.pp
  rw [stepM_host s hi]
  by_cases h32 : i % 32 = 0
  · obtain ⟨q, hq⟩ : ∃ q, i / 32 = q := ⟨_, rfl⟩
    have hq6 : q < 7 := by omega
    have hpq : p = q := by omega
    subst hpq
    have he : wordN s (ent 0 p) = 0 := h.nil p (by omega) (by omega)
    rw [hq, he, free_nxt p hq6]
    unfold mapOutE
    rw [show bitI 0 1 = false from rfl, cond_false, cond_false]
    have hor : ((1 + p) * 256 ||| 1) = (1 + p) * 256 + 1 := or256 _ _ (by omega)
    have hd : ((1 + p) * 256 + 1) / 256 = 1 + p := div10 p
    have hv : i * 256 / 8192 = p := by rw [div8, hq]
    have hv2 : i * 256 / 256 % 32 = 0 := by rw [div9, h32]
    have hyz : 1 + p < s.size / 256 := by omega
    show (lastOut (setWord (zeroF s (1 + p)) (ent 0 (i * 256 / 8192)) (((1 + p) * 256 ||| 1 : Nat) : Int)) ((1 + p) * 256 ||| 1) (i * 256) (pteW ((8 + i : Nat) : Int) 6)).2 ≠ 0 ∨ HInv s0 (lastOut (setWord (zeroF s (1 + p)) (ent 0 (i * 256 / 8192)) (((1 + p) * 256 ||| 1 : Nat) : Int)) ((1 + p) * 256 ||| 1) (i * 256) (pteW ((8 + i : Nat) : Int) 6)).1 (i + 1) (1 + p)
    rw [hor, hv, pteW_host (by omega)]
    rcases last_two (setWord (zeroF s (1 + p)) (ent 0 p) (((1 + p) * 256 + 1 : Nat) : Int)) ((1 + p) * 256 + 1) (i * 256) (((8 + i) * 256 + 7 : Nat) : Int) with hl | hl
    · exact .inl hl
    · rw [hl, hd, hv2]
      refine .inr ?_
      show HInv s0 (setWord (setWord (zeroF s (1 + p)) (ent 0 p) (((1 + p) * 256 + 1 : Nat) : Int)) (ent (1 + p) 0) (((8 + i) * 256 + 7 : Nat) : Int)) (i + 1) (1 + p)
      have z1 : (zeroF s (1 + p)).size = s.size := zeroF_size hyz
      have b1 : ent 0 p + 4 ≤ (zeroF s (1 + p)).size := by rw [ent_eq, z1]; omega
      have z2 := setWord_size b1 (((1 + p) * 256 + 1 : Nat) : Int)
      have b2 : ent (1 + p) 0 + 4 ≤ (setWord (zeroF s (1 + p)) (ent 0 p) (((1 + p) * 256 + 1 : Nat) : Int)).size := by rw [ent_eq, z2, z1]; omega
      refine ⟨by rw [setWord_size b2, z2, z1, hsz], by omega, fun r hr hir => ?_, fun r hr => ?_, fun j hj => ?_, fun x hx => ?_⟩
      · rw [wordN_set_ne b2 (by rw [ent_eq, ent_eq]; omega), wordN_set_ne b1 (by rw [ent_eq, ent_eq]; omega), wordN_zeroF hyz (by rw [ent_eq]; omega)]
        exact h.nil r hr (by omega)
      · rw [wordN_set_ne b2 (by rw [ent_eq, ent_eq]; omega)]
        by_cases hrp : r = p
        · rw [hrp, wordN_set_eq b1 (by omega)]
        · rw [wordN_set_ne b1 (by rw [ent_eq, ent_eq]; omega), wordN_zeroF hyz (by rw [ent_eq]; omega)]
          exact h.root r (by omega)
      · by_cases hji : j = i
        · rw [hji, hq, h32, wordN_set_eq b2 (by omega)]
        · rw [wordN_set_ne b2 (by rw [ent_eq, ent_eq]; omega), wordN_set_ne b1 (by rw [ent_eq, ent_eq]; omega), wordN_zeroF hyz (by rw [ent_eq]; omega)]
          exact h.leaf j (by omega)
      · rw [bt_set_out b2 (by rw [ent_eq]; omega), bt_set_out b1 (by rw [ent_eq]; omega), bt_zeroF hyz (by omega)]
        exact h.out x hx
  · obtain ⟨q, hq⟩ : ∃ q, i / 32 = q := ⟨_, rfl⟩
    have hpq : p = 1 + q := by omega
    have he : wordN s (ent 0 q) = (1 + q) * 256 + 1 := h.root q (by omega)
    rw [hq, he]
    unfold mapOutE
    have c1 : bitI ((1 + q) * 256 + 1) 1 = true := by
      rw [show (1 : Int) = ((1 : Nat) : Int) from rfl, bitI_eq _ 1 (by omega), low8_q _ _ (by omega)]; rfl
    have c2 : bitI ((1 + q) * 256 + 1) 14 = false := by
      rw [show (14 : Int) = ((14 : Nat) : Int) from rfl, bitI_eq _ 14 (by omega), low8_q _ _ (by omega)]; rfl
    rw [cond_false, c1, c2, cond_true, cond_false]
    have hd : ((1 + q) * 256 + 1) / 256 = 1 + q := div10 q
    have hv2 : i * 256 / 256 % 32 = i % 32 := div9 i
    show (lastOut s ((1 + q) * 256 + 1) (i * 256) (pteW ((8 + i : Nat) : Int) 6)).2 ≠ 0 ∨ HInv s0 (lastOut s ((1 + q) * 256 + 1) (i * 256) (pteW ((8 + i : Nat) : Int) 6)).1 (i + 1) p
    rw [pteW_host (by omega)]
    rcases last_two s ((1 + q) * 256 + 1) (i * 256) (((8 + i) * 256 + 7 : Nat) : Int) with hl | hl
    · exact .inl hl
    · rw [hl, hd, hv2]
      refine .inr ?_
      show HInv s0 (setWord s (ent (1 + q) (i % 32)) (((8 + i) * 256 + 7 : Nat) : Int)) (i + 1) p
      have b2 : ent (1 + q) (i % 32) + 4 ≤ s.size := by rw [ent_eq]; omega
      refine ⟨by rw [setWord_size b2, hsz], by omega, fun r hr hir => ?_, fun r hr => ?_, fun j hj => ?_, fun x hx => ?_⟩
      · rw [wordN_set_ne b2 (by rw [ent_eq, ent_eq]; omega)]
        exact h.nil r hr (by omega)
      · rw [wordN_set_ne b2 (by rw [ent_eq, ent_eq]; omega)]
        exact h.root r (by omega)
      · by_cases hji : j = i
        · rw [hji, hq, wordN_set_eq b2 (by omega)]
        · rw [wordN_set_ne b2 (by rw [ent_eq, ent_eq]; omega)]
          exact h.leaf j (by omega)
      · rw [bt_set_out b2 (by rw [ent_eq]; omega)]
        exact h.out x hx

theorem host_run {s0 : ByteArray} {maps : List PageMap} {n : Nat} (hn : n ≤ 200) (hm : ∀ i, i < n → nth maps i = some (hostMap i)) (h8 : 2048 ≤ s0.size) :
    ∀ (d i : Nat) (s : ByteArray) (p : Nat), i + d = n → HInv s0 s i p → (runM 0 hostFree maps d i s p).code ≠ 0 ∨ HInv s0 (runM 0 hostFree maps d i s p).mem n (runM 0 hostFree maps d i s p).took := by
  intro d
  induction d with
  | zero =>
    intro i s p hi h
    refine .inr ?_
    rw [show n = i by omega]
    exact h
  | succ d ih =>
    intro i s p hi h
    rw [runM_some (hm i (by omega))]
    have hs := host_step h (by omega) h8
    generalize stepM s 0 (hostMap i) hostFree p = o at hs ⊢
    cases hc : (o.code != 0) with
    | true =>
      rw [cond_true]
      exact .inl (by simpa using hc)
    | false =>
      rw [cond_false]
      rcases hs with hs | hs
      · exact absurd (by simpa using hc) hs
      · exact ih (i + 1) o.mem _ (by omega) hs


theorem frames_go {b1 b2 : Bool} {n10 : Int} {l1 : List Int} (hl : l1.length ≤ 2 ^ 30) : ∀ (d f : Nat) (p m : Int) (L : List Int), d < f → d ≤ 100 → 0 < L.length → L.length ≤ 2 ^ 30 → (0 ≤ p ∧ p ≤ 2 ^ 40) →
    ∃ (p' m' : Int) (L' : List Int), L'.length = L.length ∧ (0 ≤ p' ∧ p' ≤ 2 ^ 40) ∧ ∀ kN : Int → Int → List Int → Option R, l_spec_l01Src_frames_Wr_0 N b1 b2 n10 l1 kN f (d : Int) p m L = kN p' m' L' := by
  intro d
  induction d with
  | zero =>
    intro f p m L hf hd h0 hL hp
    obtain ⟨f, rfl⟩ : ∃ j, f = j + 1 := ⟨f - 1, by omega⟩
    refine ⟨p, m, L, rfl, hp, fun kN => ?_⟩
    rw [l_spec_l01Src_frames_Wr_0, s_spec_l01Src_frames_Wr_0, decide_eq_false (show ¬ ((0 : Nat) : Int) > 0 by omega), cond_false]
  | succ d ih =>
    intro f p m L hf hd h0 hL hp
    obtain ⟨f, rfl⟩ : ∃ j, f = j + 1 := ⟨f - 1, by omega⟩
    obtain ⟨v1, p1, m1, a0, a1, a3, hp1, h1⟩ := src_n (R := R) N (n := (L.length : Int)) (b := b2) (m := m) (z := n10) (by omega) hl hp
    have a2 : v1 < (L.length : Int) := by
      rcases Nat.lt_or_ge 1 L.length with h | h
      · exact a1 (by omega)
      · have := a3 (by omega); omega
    obtain ⟨v2, p2, m2, c0, c1, _, hp2, h2⟩ := src_n (R := R) N (n := 256) (b := b2) (m := m1) (z := n10) (by omega) hl hp1
    obtain ⟨i, rfl⟩ := Int.eq_ofNat_of_zero_le a0
    obtain ⟨x, hx⟩ := nth_some (l := L) (n := i) (by omega)
    have e : IntKind.wrap .i64 (((d + 1 : Nat) : Int) - 1) = ((d : Nat) : Int) := by rw [w64 (by omega) (by omega)]; omega
    obtain ⟨p', m', L', f1, f2, f3⟩ := ih f p2 m2 (nset L i (IntKind.wrap .u8 v2)) (by omega) (by omega) (by rw [nset_length]; exact h0) (by rw [nset_length]; exact hL) hp2
    refine ⟨p', m', L', by rw [f1, nset_length], f2, fun kN => ?_⟩
    rw [l_spec_l01Src_frames_Wr_0, s_spec_l01Src_frames_Wr_0, decide_eq_true (show ((d + 1 : Nat) : Int) > 0 by omega), cond_true, h1, h2, in_rng a0 a2, cond_true, Int.toNat_natCast, elemK_some hx, blt_t (show i < L.length by omega), cond_true, e]
    exact f3 kN

theorem src_frames {n : Nat} {b : Bool} {p m z : Int} {l : List Int} (hn : 0 < n) (hn2 : n ≤ 1000) (hl : l.length ≤ 2 ^ 30) (hp : 0 ≤ p ∧ p ≤ 2 ^ 40) (hN : 2 ^ 40 < N) :
    ∃ (s : ByteArray) (p' m' : Int), s.size = n * 256 ∧ (0 ≤ p' ∧ p' ≤ 2 ^ 40) ∧ ∀ k : ByteArray → Int → Int → Option R, g_spec_l01Src_frames_Wr N (n : Int) b p m z l k = k s p' m' := by
  have e : IntKind.wrap .i64 ((n : Int) * 256) = ((n * 256 : Nat) : Int) := by rw [w64 (by omega) (by omega)]; omega
  obtain ⟨v, p1, m1, a0, a1, _, hp1, h1⟩ := src_n (R := R) N (n := 6) (b := b) (m := m) (z := z) (by omega) hl hp
  have a2 := a1 (by omega)
  obtain ⟨d, rfl⟩ := Int.eq_ofNat_of_zero_le a0
  obtain ⟨p2, m2, L, c1, hp2, h2⟩ := frames_go (R := R) N (b1 := false) (b2 := b) (n10 := z) hl d N p1 m1 (List.replicate (n * 256) 0) (by omega) (by omega) (by rw [List.length_replicate]; omega) (by rw [List.length_replicate]; omega) hp1
  refine ⟨toBytes L, p2, m2, by rw [toBytes_size, c1, List.length_replicate], hp2, fun k => ?_⟩
  unfold g_spec_l01Src_frames_Wr c_spec_l01Src_frames_Wr_0
  rw [e, dec_self, dec_nn, Int.toNat_natCast, room (by omega) (by omega), Bool.and_self, Bool.and_self, cond_true, h1]
  refine (h2 _).trans ?_
  rw [Nat.zero_add, ble_t (Nat.le_refl _), cond_true, seg_all]

theorem tbl_start {s1 : ByteArray} {b2 b3 : Bool} {n10 n11 n12 : Int} {l2 : List Int} {l3 : List PageMap} (hs : s1.size ≤ 65536) (h256 : s1.size % 256 = 0) (hm : memOk s1 = true) (h6 : 6 ≤ s1.size / 256) (hl : l3.length ≤ 1000) (hN : 2 ^ 40 < N) :
    ∃ s' : ByteArray, s'.size = s1.size ∧ ((∀ (kNb1 : ByteArray → Option R) (kN : ByteArray → Bool → Int → Int → Int → List Int → Option R), c_spec_l01Src_tables_Wr_0b1 N s1 b2 b3 n10 n11 n12 l2 l3 kNb1 kN = kNb1 s') ∨
      (∀ (kNb1 : ByteArray → Option R) (kN : ByteArray → Bool → Int → Int → Int → List Int → Option R), c_spec_l01Src_tables_Wr_0b1 N s1 b2 b3 n10 n11 n12 l2 l3 kNb1 kN = kN s' b3 n10 n11 n12 l2)) := by
  obtain ⟨M, hM⟩ : ∃ M, N = M + 1 := ⟨N - 1, by omega⟩
  have hc : ∀ (kNb1 : ByteArray → Option R) (kN : ByteArray → Bool → Int → Int → Int → List Int → Option R), c_spec_l01Src_tables_Wr_0b1 N s1 b2 b3 n10 n11 n12 l2 l3 kNb1 kN = s_spec_l01Src_tables_Wr_0b1 N s1 b2 b3 n10 n11 n12 l2 l3 (fun s4 m3 m4 m5 b6 b7 n15 n16 n17 l10 l11 => l_spec_l01Src_tables_Wr_0 N s4 b6 b7 n15 n16 n17 l10 l11 kN M m3 m4 m5) kNb1 := fun kNb1 kN => by
    unfold c_spec_l01Src_tables_Wr_0b1
    have : ∀ f, f = M + 1 → l_spec_l01Src_tables_Wr_0b1 N s1 b2 b3 n10 n11 n12 l2 l3 kNb1 kN f = s_spec_l01Src_tables_Wr_0b1 N s1 b2 b3 n10 n11 n12 l2 l3 (fun s4 m3 m4 m5 b6 b7 n15 n16 n17 l10 l11 => l_spec_l01Src_tables_Wr_0 N s4 b6 b7 n15 n16 n17 l10 l11 kN M m3 m4 m5) kNb1 := fun f hf => by
      rw [hf, l_spec_l01Src_tables_Wr_0b1]
    exact this N hM
  by_cases h0 : l3.length = 0
  · refine ⟨s1, rfl, .inl fun kNb1 kN => ?_⟩
    rw [hc, s_spec_l01Src_tables_Wr_0b1, decide_eq_false (by omega), cond_false]
  have hfr := frees_in h6
  have e : IntKind.wrap .i64 ((l3.length : Int) - 1) = ((l3.length - 1 : Nat) : Int) := by rw [w64 (by omega) (by omega)]; omega
  rcases MapPages_ww_ok (R := R) N (s := s1) (r := 1) (b := b2) (b1 := false) (l := l3) (l1 := [(2 : Int), (3 : Int), (4 : Int), (5 : Int)]) hs h256 hm (by omega) hl (by simp) hfr hN with ⟨c, p, hcc, g⟩ | ⟨s', b', g1, g⟩ | ⟨s', m, m1, m2, b', g1, _, g⟩
  · have hc' : (c == 0) = false := by rw [beq_dec]; exact decide_eq_false hcc
    obtain ⟨s', g1, g2⟩ := tbl_go (R := R) N (s4 := s1) (b6 := b2) (b7 := b3) (n15 := n10) (n16 := n11) (n17 := n12) (l10 := l2) (l11 := l3) hs h256 hm h6 hl hN (l3.length - 1) M 0 (l3.length - 1 - 0) (l3.length - (l3.length - 1)) (by omega) (by omega) (by omega)
    refine ⟨s', g1, .inr fun kNb1 kN => ?_⟩
    rw [hc, s_spec_l01Src_tables_Wr_0b1, decide_eq_true (show (l3.length : Int) > 0 by omega), cond_true]
    refine (g _ _).trans ?_
    rw [hc', cond_false, e, dec_nn, decide_eq_true (show ((l3.length - 1 : Nat) : Int) ≤ (l3.length : Int) by omega), Bool.and_self, cond_true, Int.toNat_natCast]
    exact g2 kN
  · refine ⟨s', g1, .inl fun kNb1 kN => ?_⟩
    rw [hc, s_spec_l01Src_tables_Wr_0b1, decide_eq_true (show (l3.length : Int) > 0 by omega), cond_true]
    refine (g _ _).trans ?_
    rw [beq_self_eq_true, cond_true]
  · refine ⟨s', g1, .inl fun kNb1 kN => ?_⟩
    rw [hc, s_spec_l01Src_tables_Wr_0b1, decide_eq_true (show (l3.length : Int) > 0 by omega), cond_true]
    exact g _ _

theorem tab_second {s : ByteArray} {b : Bool} {p m z : Int} {l : List Int} (hs : s.size ≤ 65536) (h6 : 1536 ≤ s.size) (hl : l.length ≤ 2 ^ 30) (hp : 0 ≤ p ∧ p ≤ 2 ^ 40) :
    ∃ (s' : ByteArray) (p' m' : Int), s'.size = s.size ∧ (0 ≤ p' ∧ p' ≤ 2 ^ 40) ∧ ∀ k : ByteArray → Bool → Int → Int → Int → List Int → Option R,
      (g_spec_l01Src_one_Wr N (6 : Int) b p m z l fun b12 n36 n37 => (cond b12
        (g_spec_l01Src_n_Wr N (3 : Int) b n36 n37 z l fun n38 n39 n40 => (g_spec_l01Src_n_Wr N (4 : Int) b n39 n40 z l fun n41 n42 n43 =>
          (cond ((decide ((0 : Int) ≤ n41)) && (decide (n41 < (4 : Int)))) (elemK [(1 : Int), (76819 : Int), (2 : Int), (0 : Int)] (Int.toNat n41) fun x3 =>
            (g_spec_SetWord N s (IntKind.wrap .i64 ((512 : Int) + (IntKind.wrap .i64 ((4 : Int) * n38)))) x3 fun s10 => (k s10 b n42 n43 z l))) none)))
        (k s b n36 n37 z l))) = k s' b p' m' z l := by
  obtain ⟨v, p1, m1, hp1, h1⟩ := src_one (R := R) N (n := 6) (b := b) (m := m) (z := z) (by omega) hl hp
  cases v with
  | false => exact ⟨s, p1, m1, rfl, hp1, fun k => by rw [h1, cond_false]⟩
  | true =>
    obtain ⟨v2, p2, m2, a0, a1, _, hp2, h2⟩ := src_n (R := R) N (n := 3) (b := b) (m := m1) (z := z) (by omega) hl hp1
    have a1 := a1 (by omega)
    obtain ⟨v3, p3, m3, c0, c1, _, hp3, h3⟩ := src_n (R := R) N (n := 4) (b := b) (m := m2) (z := z) (by omega) hl hp2
    have c1 := c1 (by omega)
    obtain ⟨x, _, hx⟩ := pick_lit (R := R) (L := [(1 : Int), (76819 : Int), (2 : Int), (0 : Int)]) c0 (by simpa using c1)
    obtain ⟨v2, rfl⟩ := Int.eq_ofNat_of_zero_le a0
    have e : IntKind.wrap .i64 ((512 : Int) + (IntKind.wrap .i64 ((4 : Int) * (v2 : Int)))) = ((512 + 4 * v2 : Nat) : Int) := by rw [w64 (n := 4 * (v2 : Int)) (by omega) (by omega), w64 (by omega) (by omega)]; omega
    refine ⟨setWord s (512 + 4 * v2) x, p3, m3, setWord_size (by omega) _, hp3, fun k => ?_⟩
    rw [h1, cond_true, h2, h3, in_rng c0 c1, cond_true, hx, e, spec_SetWord_eq N (by omega) hs]

theorem tab_first {s : ByteArray} {b : Bool} {p m z : Int} {l : List Int} (hs : s.size ≤ 65536) (h6 : 1536 ≤ s.size) (hl : l.length ≤ 2 ^ 30) (hp : 0 ≤ p ∧ p ≤ 2 ^ 40) :
    ∃ (s' : ByteArray) (p' m' : Int), s'.size = s.size ∧ (0 ≤ p' ∧ p' ≤ 2 ^ 40) ∧ ∀ k : ByteArray → Bool → Int → Int → Int → List Int → Option R,
      (g_spec_l01Src_one_Wr N (6 : Int) b p m z l fun b10 n20 n21 =>
            (cond b10
            (g_spec_l01Src_n_Wr N (3 : Int) b n20 n21 z l fun n22 n23 n24 =>
              (g_spec_l01Src_n_Wr N (4 : Int) b n23 n24 z l fun n25 n26 n27 =>
              (cond ((decide ((0 : Int) ≤ n25)) && (decide (n25 < (4 : Int))))
              (elemK [(8451 : Int), (65281 : Int), (16387 : Int), (2147483649 : Int)] (Int.toNat n25) fun x1 =>
                (g_spec_SetWord N s (IntKind.wrap .i64 ((256 : Int) + (IntKind.wrap .i64 ((4 : Int) * n22)))) x1 fun s8 =>
                (g_spec_l01Src_one_Wr N (6 : Int) b n26 n27 z l fun b11 n28 n29 =>
                (cond b11
                (g_spec_l01Src_n_Wr N (3 : Int) b n28 n29 z l fun n30 n31 n32 =>
                  (g_spec_l01Src_n_Wr N (4 : Int) b n31 n32 z l fun n33 n34 n35 =>
                  (cond ((decide ((0 : Int) ≤ n33)) && (decide (n33 < (4 : Int))))
                  (elemK [(1 : Int), (76819 : Int), (2 : Int), (0 : Int)] (Int.toNat n33) fun x2 =>
                    (g_spec_SetWord N s8 (IntKind.wrap .i64 ((512 : Int) + (IntKind.wrap .i64 ((4 : Int) * n30)))) x2 fun s9 =>
                    (k s9 b n34 n35 z l)))
                  none)))
                (k s8 b n28 n29 z l)))))
              none)))
            (g_spec_l01Src_one_Wr N (6 : Int) b n20 n21 z l fun b12 n36 n37 =>
              (cond b12
              (g_spec_l01Src_n_Wr N (3 : Int) b n36 n37 z l fun n38 n39 n40 =>
                (g_spec_l01Src_n_Wr N (4 : Int) b n39 n40 z l fun n41 n42 n43 =>
                (cond ((decide ((0 : Int) ≤ n41)) && (decide (n41 < (4 : Int))))
                (elemK [(1 : Int), (76819 : Int), (2 : Int), (0 : Int)] (Int.toNat n41) fun x3 =>
                  (g_spec_SetWord N s (IntKind.wrap .i64 ((512 : Int) + (IntKind.wrap .i64 ((4 : Int) * n38)))) x3 fun s10 =>
                  (k s10 b n42 n43 z l)))
                none)))
              (k s b n36 n37 z l))))) = k s' b p' m' z l := by
  obtain ⟨v, p1, m1, hp1, h1⟩ := src_one (R := R) N (n := 6) (b := b) (m := m) (z := z) (by omega) hl hp
  cases v with
  | false =>
    obtain ⟨s', p', m', g1, g2, g3⟩ := tab_second (R := R) N (b := b) (m := m1) (z := z) hs h6 hl hp1
    exact ⟨s', p', m', g1, g2, fun k => by rw [h1, cond_false]; exact g3 k⟩
  | true =>
    obtain ⟨v2, p2, m2, a0, a1, _, hp2, h2⟩ := src_n (R := R) N (n := 3) (b := b) (m := m1) (z := z) (by omega) hl hp1
    have a1 := a1 (by omega)
    obtain ⟨v3, p3, m3, c0, c1, _, hp3, h3⟩ := src_n (R := R) N (n := 4) (b := b) (m := m2) (z := z) (by omega) hl hp2
    have c1 := c1 (by omega)
    obtain ⟨x, _, hx⟩ := pick_lit (R := R) (L := [(8451 : Int), (65281 : Int), (16387 : Int), (2147483649 : Int)]) c0 (by simpa using c1)
    obtain ⟨v2, rfl⟩ := Int.eq_ofNat_of_zero_le a0
    have e : IntKind.wrap .i64 ((256 : Int) + (IntKind.wrap .i64 ((4 : Int) * (v2 : Int)))) = ((256 + 4 * v2 : Nat) : Int) := by rw [w64 (n := 4 * (v2 : Int)) (by omega) (by omega), w64 (by omega) (by omega)]; omega
    have hz : (setWord s (256 + 4 * v2) x).size = s.size := setWord_size (by omega) _
    obtain ⟨s', p', m', g1, g2, g3⟩ := tab_second (R := R) N (s := setWord s (256 + 4 * v2) x) (b := b) (m := m3) (z := z) (by omega) (by omega) hl hp3
    refine ⟨s', p', m', by omega, g2, fun k => ?_⟩
    rw [h1, cond_true, h2, h3, in_rng c0 c1, cond_true, hx, e, spec_SetWord_eq N (by omega) hs]
    exact g3 k

theorem memOk_of {s : ByteArray} {n : Nat} (h : s.size = n * 256) (h0 : 0 < n) (h1 : n ≤ 256) : memOk s = true := by
  unfold memOk
  rw [h, decide_eq_true (by omega), decide_eq_true (by omega), tmod_nn (by omega)]
  simp

theorem src_tables {b : Bool} {p m z : Int} {l : List Int} (hl : l.length ≤ 2 ^ 30) (hp : 0 ≤ p ∧ p ≤ 2 ^ 40) (hN : 2 ^ 40 < N) :
    ∃ (n : Nat) (s : ByteArray) (p' m' : Int), (n = 8 ∨ n = 12 ∨ n = 40) ∧ s.size = n * 256 ∧ (0 ≤ p' ∧ p' ≤ 2 ^ 40) ∧ ∀ k : ByteArray → Bool → Int → Int → Int → List Int → Option R, g_spec_l01Src_tables_Wr N b p m z l k = k s b p' m' z l := by
  obtain ⟨v1, p1, m1, a0, a1, _, hp1, h1⟩ := src_n (R := R) N (n := 3) (b := b) (m := m) (z := z) (by omega) hl hp
  have a1 := a1 (by omega)
  obtain ⟨x, hxm, hx⟩ := pick_lit (R := R) (L := [(8 : Int), (12 : Int), (40 : Int)]) a0 (by simpa using a1)
  obtain ⟨n, rfl, hn⟩ : ∃ n : Nat, x = (n : Int) ∧ (n = 8 ∨ n = 12 ∨ n = 40) := by
    simp only [List.mem_cons, List.not_mem_nil, or_false] at hxm
    exact ⟨x.toNat, by omega, by omega⟩
  obtain ⟨s, p2, m2, hs, hp2, h2⟩ := src_frames (R := R) N (n := n) (b := b) (m := m1) (z := z) (by omega) (by omega) hl hp1 hN
  obtain ⟨b1, p3, m3, L, _, hL, hp3, h3⟩ := src_maps (R := R) N (n := (n : Int)) (b := b) (m := m2) (z := z) (by omega) hl hp2 hN
  have hz : (toBytes (seg (List.replicate 256 (0 : Int)) 0 256)).size = 256 := by rw [toBytes_size]; unfold seg; rw [List.length_take, List.length_drop, List.length_replicate]; rfl
  have hsz : (s.extract 0 256 ++ toBytes (seg (List.replicate 256 (0 : Int)) 0 256) ++ s.extract 512 s.size).size = n * 256 := by
    rw [ByteArray.size_append, ByteArray.size_append, hz, ByteArray.size_extract, ByteArray.size_extract]; omega
  have hrun : ∀ k : ByteArray → Bool → Int → Int → Int → List Int → Option R, g_spec_l01Src_tables_Wr N b p m z l k = _ := fun k => by
    unfold g_spec_l01Src_tables_Wr
    rw [h1, in_rng a0 a1, cond_true, hx, h2, decide_eq_true (show (256 : Int) ≤ (s.size : Int) by omega), cond_true, show (256 : Int).toNat = 256 from rfl, ble_t (by rw [ByteArray.size_extract]; omega), cond_true, decide_eq_true (show (512 : Int) ≤ (s.size : Int) by omega), decide_eq_true (show (s.size : Int) ≤ (s.size : Int) by omega), Bool.and_self, cond_true, Int.toNat_natCast,
      ble_t (by rw [ByteArray.size_append, hz, ByteArray.size_extract, ByteArray.size_extract]; omega), cond_true, h3]
  clear h1 h2 h3 hx
  generalize s.extract 0 256 ++ toBytes (seg (List.replicate 256 (0 : Int)) 0 256) ++ s.extract 512 s.size = t at hsz hrun
  obtain ⟨s1, g1, g⟩ := tbl_start (R := R) N (s1 := t) (b2 := b1) (b3 := b) (n10 := p3) (n11 := m3) (n12 := z) (l2 := l) (l3 := L) (by omega) (by omega) (memOk_of hsz (by omega) (by omega)) (by omega) (by omega) hN
  obtain ⟨s', p', m', q1, q2, q3⟩ := tab_first (R := R) N (s := s1) (b := b) (m := m3) (z := z) (by omega) (by omega) hl hp3
  refine ⟨n, s', p', m', hn, by omega, q2, fun k => ?_⟩
  rw [hrun]
  rcases g with g | g
  · exact (g _ _).trans (q3 k)
  · exact (g _ _).trans (q3 k)

theorem src_va {b : Bool} {p m z : Int} {l : List Int} (hl : l.length ≤ 2 ^ 30) (hp : 0 ≤ p ∧ p ≤ 2 ^ 40) :
    ∃ (v p' m' : Int), (0 ≤ p' ∧ p' ≤ 2 ^ 40) ∧ ∀ k : Int → Int → Int → Option R, g_spec_l01Src_va_Wr N b p m z l k = k v p' m' := by
  obtain ⟨v1, p1, m1, a0, a1, _, hp1, h1⟩ := src_n (R := R) N (n := 10) (b := b) (m := m) (z := z) (by omega) hl hp
  have a1 := a1 (by omega)
  obtain ⟨x, _, hx⟩ := pick_lit (R := R) (L := [(0 : Int), (1 : Int), (2 : Int), (31 : Int), (32 : Int), (33 : Int), (64 : Int), (1023 : Int), (5 : Int), (96 : Int)]) a0 (by simpa using a1)
  obtain ⟨v2, p2, m2, _, _, _, hp2, h2⟩ := src_n (R := R) N (n := 64) (b := b) (m := m1) (z := z) (by omega) hl hp1
  obtain ⟨v3, p3, m3, hp3, h3⟩ := src_one (R := R) N (n := 30) (b := b) (m := m2) (z := z) (by omega) hl hp2
  cases v3 with
  | false => exact ⟨_, p3, m3, hp3, fun k => by unfold g_spec_l01Src_va_Wr; rw [h1, in_rng a0 a1, cond_true, hx, h2, h3, cond_false]⟩
  | true =>
    obtain ⟨v4, p4, m4, c0, c1, _, hp4, h4⟩ := src_n (R := R) N (n := 3) (b := b) (m := m3) (z := z) (by omega) hl hp3
    have c1 := c1 (by omega)
    obtain ⟨y, _, hy⟩ := pick_lit (R := R) (L := [(-(1 : Int)), (262144 : Int), (262140 : Int)]) c0 (by simpa using c1)
    exact ⟨y, p4, m4, hp4, fun k => by unfold g_spec_l01Src_va_Wr; rw [h1, in_rng a0 a1, cond_true, hx, h2, h3, cond_true, h4, in_rng c0 c1, cond_true, hy]⟩


theorem DrawWalk_ok {b : Bool} {l : List Int} (hl : l.length ≤ 2 ^ 30) (hN : 2 ^ 40 < N) :
    ∃ (s : ByteArray) (root va acc : Int) (u : Bool), s.size ≤ 65536 ∧ ∀ k : ByteArray → Int → Int → Int → Bool → Option R, g_spec_DrawWalk_r N b l k = k s root va acc u := by
  obtain ⟨m0, z, _, _, h0⟩ := src_of (R := R) N (b := b) hl hN
  obtain ⟨v1, p1, m1, hp1, h1⟩ := src_one (R := R) N (n := 12) (b := b) (m := m0) (z := z) (p := 0) (by omega) hl (by omega)
  have tail : ∀ (x p m : Int), (0 ≤ p ∧ p ≤ 2 ^ 40) → ∃ (s : ByteArray) (va acc : Int) (u : Bool), s.size ≤ 65536 ∧ ∀ k : ByteArray → Int → Int → Int → Bool → Option R,
      (g_spec_l01Src_tables_Wr N b p m z l fun s b2 n7 n8 n9 l1 =>
      (g_spec_l01Src_one_Wr N (40 : Int) b2 n7 n8 n9 l fun b3 n10 n11 =>
      (oK (cond b3
        (cond ((decide ((1 : Int) ≤ (((ByteArray.size s) : Nat) : Int))) && (decide ((((ByteArray.size s) : Nat) : Int) ≤ (((ByteArray.size s) : Nat) : Int))))
          (some (ByteArray.extract s 1 (Int.toNat (((ByteArray.size s) : Nat) : Int))))
          none)
        (some s)) fun j =>
      (g_spec_l01Src_n_Wr N (3 : Int) b2 n10 n11 n9 l fun n12 n13 n14 =>
      (g_spec_l01Src_one_Wr N (40 : Int) b2 n13 n14 n9 l fun b4 n15 n16 =>
      (cond b4
      (g_spec_l01Src_n_Wr N (2 : Int) b2 n15 n16 n9 l fun n17 n18 n19 =>
        (cond ((decide ((0 : Int) ≤ n17)) && (decide (n17 < (2 : Int))))
        (elemK [(0 : Int), (4 : Int)] (Int.toNat n17) fun x1 =>
          (g_spec_l01Src_va_Wr N b2 n18 n19 n9 l fun n20 n21 n22 =>
          (g_spec_l01Src_one_Wr N (2 : Int) b2 n21 n22 n9 l fun b5 n23 n24 =>
          (k j x n20 x1 b5))))
        none))
      (g_spec_l01Src_va_Wr N b2 n15 n16 n9 l fun n25 n26 n27 =>
        (g_spec_l01Src_one_Wr N (2 : Int) b2 n26 n27 n9 l fun b6 n28 n29 =>
        (k j x n25 (IntKind.wrap .i64 ((1 : Int) + n12)) b6))))))))) = k s x va acc u := by
    intro x p m hp
    obtain ⟨n, s, p2, m2, hn, hs, hp2, h2⟩ := src_tables (R := R) N (b := b) (m := m) (z := z) hl hp hN
    obtain ⟨v3, p3, m3, hp3, h3⟩ := src_one (R := R) N (n := 40) (b := b) (m := m2) (z := z) (by omega) hl hp2
    obtain ⟨t, ht, hj⟩ : ∃ t : ByteArray, t.size ≤ 65536 ∧ (cond v3 (cond ((decide ((1 : Int) ≤ (((ByteArray.size s) : Nat) : Int))) && (decide ((((ByteArray.size s) : Nat) : Int) ≤ (((ByteArray.size s) : Nat) : Int)))) (some (ByteArray.extract s 1 (Int.toNat (((ByteArray.size s) : Nat) : Int)))) none) (some s)) = some t := by
      cases v3 with
      | true => exact ⟨s.extract 1 s.size, by rw [ByteArray.size_extract]; omega, by rw [cond_true, decide_eq_true (by omega), decide_eq_true (by omega)]; rfl⟩
      | false => exact ⟨s, by omega, rfl⟩
    obtain ⟨v4, p4, m4, _, _, _, hp4, h4⟩ := src_n (R := R) N (n := 3) (b := b) (m := m3) (z := z) (by omega) hl hp3
    obtain ⟨v5, p5, m5, hp5, h5⟩ := src_one (R := R) N (n := 40) (b := b) (m := m4) (z := z) (by omega) hl hp4
    cases v5 with
    | true =>
      obtain ⟨v6, p6, m6, c0, c1, _, hp6, h6⟩ := src_n (R := R) N (n := 2) (b := b) (m := m5) (z := z) (by omega) hl hp5
      have c1 := c1 (by omega)
      obtain ⟨y, _, hy⟩ := pick_lit (R := R) (L := [(0 : Int), (4 : Int)]) c0 (by simpa using c1)
      obtain ⟨v7, p7, m7, hp7, h7⟩ := src_va (R := R) N (b := b) (m := m6) (z := z) hl hp6
      obtain ⟨v8, p8, m8, hp8, h8⟩ := src_one (R := R) N (n := 2) (b := b) (m := m7) (z := z) (by omega) hl hp7
      exact ⟨t, v7, y, v8, ht, fun k => by rw [h2, h3, hj, oK_some_eq, h4, h5, cond_true, h6, in_rng c0 c1, cond_true, hy, h7, h8]⟩
    | false =>
      obtain ⟨v7, p7, m7, hp7, h7⟩ := src_va (R := R) N (b := b) (m := m5) (z := z) hl hp5
      obtain ⟨v8, p8, m8, hp8, h8⟩ := src_one (R := R) N (n := 2) (b := b) (m := m7) (z := z) (by omega) hl hp7
      exact ⟨t, v7, _, v8, ht, fun k => by rw [h2, h3, hj, oK_some_eq, h4, h5, cond_false, h7, h8]⟩
  cases v1 with
  | true =>
    obtain ⟨v6, p6, m6, c0, c1, _, hp6, h6⟩ := src_n (R := R) N (n := 5) (b := b) (m := m1) (z := z) (by omega) hl hp1
    have c1 := c1 (by omega)
    obtain ⟨y, _, hy⟩ := pick_lit (R := R) (L := [(0 : Int), (255 : Int), (-(1 : Int)), (256 : Int), (7 : Int)]) c0 (by simpa using c1)
    obtain ⟨s, va, acc, u, hs, hk⟩ := tail y p6 m6 hp6
    exact ⟨s, y, va, acc, u, hs, fun k => by unfold g_spec_DrawWalk_r; rw [h0, h1, cond_true, h6, in_rng c0 c1, cond_true, hy]; exact hk k⟩
  | false =>
    obtain ⟨s, va, acc, u, hs, hk⟩ := tail 1 p1 m1 hp1
    exact ⟨s, 1, va, acc, u, hs, fun k => by unfold g_spec_DrawWalk_r; rw [h0, h1, cond_false]; exact hk k⟩

structure Host (H G : ByteArray) (n : Nat) : Prop where
  sz : H.size = 2048 + 256 * n
  gz : G.size = 256 * n
  root : ∀ r, 32 * r < n → wordN H (ent 0 r) = (1 + r) * 256 + 1
  leaf : ∀ j, j < n → wEq (wordN H (ent (1 + j / 32) (j % 32))) ((8 + j) * 256 + 7)
  gst : ∀ q, q < 256 * n → bt H (2048 + q) = bt G q

theorem host_memOk {H G : ByteArray} {n : Nat} (h : Host H G n) (hn : n ≤ 200) : Good H := by
  have hz := h.sz
  exact ⟨memOk_of (n := 8 + n) (by omega) (by omega) (by omega), by omega, by omega⟩

theorem letsB7 (x : Nat) (acc : Int) (ha : acc = 1 ∨ acc = 2) : letsB (low8 ((x * 256 + 7 : Nat) : Int)) acc false = true := by
  rw [low8_q _ _ (by omega)]
  rcases ha with rfl | rfl <;> rfl

theorem div11 (x : Nat) : ((8 + x) * 256 + 7) / 256 = 8 + x := by omega

theorem div12 (g : Nat) : (8 + g / 256) * 256 + g % 256 = g + 2048 := by omega

theorem div13 (g n : Nat) (h : g < 256 * n) : ¬ 8 + n ≤ 1 + g / 8192 := by omega

theorem div14 (g n : Nat) (h : g < 256 * n) : ¬ 8 + n ≤ 8 + g / 256 := by omega

theorem div15 (z n : Nat) (h : z = 2048 + 256 * n) : z / 256 = 8 + n := by omega

theorem look_host {H G : ByteArray} {n gpa : Nat} {acc : Int} (h : Host H G n) (hn : n ≤ 200) (hg : gpa < 256 * n) (ha : acc = 1 ∨ acc = 2) :
    look H 0 gpa acc false = ⟨0, ((gpa + 2048 : Nat) : Int), ((ent (1 + gpa / 8192) (gpa / 256 % 32) : Nat) : Int), wordN H (ent (1 + gpa / 8192) (gpa / 256 % 32)), putE (wordN H (ent (1 + gpa / 8192) (gpa / 256 % 32))) acc, false, 0, ((1 + gpa / 8192 : Nat) : Int), 2⟩ := by
  have hz := h.sz
  have hr := h.root (gpa / 8192) (by omega)
  have hl := h.leaf (gpa / 256) (by omega)
  have e1 : gpa / 256 / 32 = gpa / 8192 := by omega
  rw [e1] at hl
  have hlet := (hl.lets acc false).trans (letsB7 (8 + gpa / 256) acc ha)
  have hfr := hl.1
  have e2 : ((1 + gpa / 8192) * 256 + 1) / 256 = 1 + gpa / 8192 := div10 _
  have e3 : ((8 + gpa / 256) * 256 + 7) / 256 = 8 + gpa / 256 := div11 _
  have hld : leadsOn ((1 + gpa / 8192) * 256 + 1) = true := by
    unfold leadsOn
    rw [low8_q _ _ (by omega)]
    rfl
  rw [e3] at hfr
  unfold look
  dsimp only
  rw [hr, hld, e2]
  generalize wordN H (ent (1 + gpa / 8192) (gpa / 256 % 32)) = w at hlet hfr ⊢
  rw [div15 _ _ hz, decide_eq_false (show ¬ 8 + n ≤ 0 from fun x => absurd x (by simp)), cond_false, cond_true, decide_eq_false (div13 _ _ hg), cond_false, hlet, Bool.not_true, cond_false, hfr, decide_eq_false (div14 _ _ hg), cond_false, div12]
  rfl

theorem host_touch {H G : ByteArray} {n gpa : Nat} {acc : Int} (h : Host H G n) (hn : n ≤ 200) (hg : gpa < 256 * n) :
    Host (setWord H (ent (1 + gpa / 8192) (gpa / 256 % 32)) (putE (wordN H (ent (1 + gpa / 8192) (gpa / 256 % 32))) acc : Nat)) G n := by
  have hz := h.sz
  have b1 : ent (1 + gpa / 8192) (gpa / 256 % 32) + 4 ≤ H.size := by rw [ent_eq]; omega
  have hw := wordN_lt H (ent (1 + gpa / 8192) (gpa / 256 % 32))
  have hp := (putE_facts (wordN H (ent (1 + gpa / 8192) (gpa / 256 % 32))) acc).2.2.2.1 hw
  refine ⟨by rw [setWord_size b1, hz], h.gz, fun r hr => ?_, fun j hj => ?_, fun q hq => ?_⟩
  · rw [wordN_set_ne b1 (by rw [ent_eq, ent_eq]; omega)]
    exact h.root r hr
  · by_cases hjg : j = gpa / 256
    · have e1 : j / 32 = gpa / 8192 := by omega
      rw [e1, hjg, wordN_set_eq b1 hp]
      refine (wEq_put _ _).trans ?_
      have := h.leaf j hj
      rw [e1, hjg] at this
      exact this
    · rw [wordN_set_ne b1 (by rw [ent_eq, ent_eq]; omega)]
      exact h.leaf j hj
  · rw [bt_set_out b1 (by rw [ent_eq]; omega)]
    exact h.gst q hq

/-- A guest's place is found, 2048 behind it; the host's memory stays such. -/
theorem place_host {H G : ByteArray} {n gpa : Nat} {acc : Int} (h : Host H G n) (hn : n ≤ 200) (hg : gpa < 256 * n) (ha : acc = 1 ∨ acc = 2) :
    ∃ s1 : ByteArray, Host s1 G n ∧ ∀ (st n4 : Int) (k : Int → ByteArray → Int → Int → Option R), 0 ≤ st → st ≤ 1000 → g_spec_l03Two_place_W N gpa acc H 0 st n4 k = k ((gpa + 2048 : Nat) : Int) s1 (st + 2) n4 := by
  have hG := host_memOk h hn
  refine ⟨_, host_touch (acc := acc) h hn hg, fun st n4 k h0 h1 => ?_⟩
  unfold g_spec_l03Two_place_W
  have hs := spec_Walk_eq N (R := R) (s := H) (root := 0) (va := gpa) (acc := acc) (user := false) hG.ok hG.le hG.fr (by omega) (by omega) (by omega)
  rw [show (((0 : Nat) : Int)) = 0 from rfl] at hs
  rw [hs, look_host h hn hg ha]
  dsimp only
  rw [show ((0 : Int) != 0) = false from rfl, cond_false, show ((0 : Int) == 0) = true from rfl, cond_true]
  have hf : ∀ (a b c : Int) (d e : Int) (x : Bool) (r : Int), (framesOf ⟨a, b, c, d, e, x, 0, r, 2⟩).length = 2 := fun _ _ _ _ _ _ _ => rfl
  rw [hf, w64 (by omega) (by omega)]
  rfl

theorem host_word {H G : ByteArray} {n i : Nat} (h : Host H G n) (hi : i + 4 ≤ 256 * n) : wordN H (i + 2048) = wordN G i := by
  unfold wordN wordAt
  have b0 := h.gst i (by omega)
  have b1 := h.gst (i + 1) (by omega)
  have b2 := h.gst (i + 2) (by omega)
  have b3 := h.gst (i + 3) (by omega)
  rw [show i + 2048 = 2048 + i by omega, show 2048 + i + 1 = 2048 + (i + 1) by omega, show 2048 + i + 2 = 2048 + (i + 2) by omega, show 2048 + i + 3 = 2048 + (i + 3) by omega, b0, b1, b2, b3]

theorem host_put {H G : ByteArray} {n i : Nat} (w : Int) (h : Host H G n) (hn : n ≤ 200) (hi : i + 4 ≤ 256 * n) : Host (setWord H (i + 2048) w) (setWord G i w) n := by
  have hz := h.sz
  have hgz := h.gz
  have b1 : i + 2048 + 4 ≤ H.size := by omega
  have b2 : i + 4 ≤ G.size := by omega
  refine ⟨by rw [setWord_size b1, hz], by rw [setWord_size b2, hgz], fun r hr => ?_, fun j hj => ?_, fun q hq => ?_⟩
  · rw [wordN_set_ne b1 (by rw [ent_eq]; omega)]
    exact h.root r hr
  · rw [wordN_set_ne b1 (by rw [ent_eq]; omega)]
    exact h.leaf j hj
  · by_cases hq2 : i ≤ q ∧ q < i + 4
    · obtain ⟨d, rfl⟩ : ∃ d, q = i + d := ⟨q - i, by omega⟩
      rw [show 2048 + (i + d) = i + 2048 + d by omega, bt_set_in b1 (by omega), bt_set_in b2 (by omega)]
    · rw [bt_set_out b1 (by omega), bt_set_out b2 (by omega)]
      exact h.gst q hq

theorem set_same {s : ByteArray} {i : Nat} (h : i + 4 ≤ s.size) : setWord s i (wordN s i : Nat) = s := by
  refine bytes_ext (setWord_size h _) fun j hj => ?_
  by_cases hi : i ≤ j ∧ j < i + 4
  · obtain ⟨k, rfl⟩ : ∃ k, j = i + k := ⟨j - i, by omega⟩
    rw [bt_set_in h (by omega)]
    obtain ⟨h0, h1, h2, h3⟩ := bt_putWord ((wordN s i : Nat) : Int)
    have hw := wordN_cast s i
    have b0 := bt_bound s i
    have b1 := bt_bound s (i + 1)
    have b2 := bt_bound s (i + 2)
    have b3 := bt_bound s (i + 3)
    unfold wordAt at hw
    rw [← hw] at h0 h1 h2 h3 ⊢
    have hk : k = 0 ∨ k = 1 ∨ k = 2 ∨ k = 3 := by omega
    rcases hk with rfl | rfl | rfl | rfl
    · rw [h0]; show _ = bt s i; omega
    · rw [h1]; omega
    · rw [h2]; omega
    · rw [h3]; omega
  · rw [bt_set_out h (by omega)]


theorem last_host {s G : ByteArray} {n gpa : Nat} {acc st bad : Int} (h : Host s G n) (hn : n ≤ 200) (hg : gpa < 256 * n) (ha : acc = 1 ∨ acc = 2 ∨ acc = 3) (h0 : 0 ≤ st) (h1 : st ≤ 1000) :
    ∃ m : ByteArray, Host m G n ∧ ∀ k : Int → Int → Int → Int → ByteArray → Option R, (oK (cond (acc == 3) (some 1) (some acc)) fun j5 => g_spec_l03Two_place_W N (gpa : Int) j5 s 0 st bad fun n16 s5 n17 n18 =>
        cond (decide (n16 < 0)) (g_spec_l03Two_answer_W N 3 n18 0 s5 0 n17 n18 (k 3 n18 0 n17 s5)) (g_spec_l03Two_answer_W N 0 (gpa : Int) n16 s5 0 n17 n18 (k 0 (gpa : Int) n16 n17 s5))) = k 0 (gpa : Int) ((gpa + 2048 : Nat) : Int) (st + 2) m := by
  have key : ∀ acc' : Int, (acc' = 1 ∨ acc' = 2) → ∃ m : ByteArray, Host m G n ∧ ∀ k : Int → Int → Int → Int → ByteArray → Option R, (g_spec_l03Two_place_W N (gpa : Int) acc' s 0 st bad fun n16 s5 n17 n18 =>
        cond (decide (n16 < 0)) (g_spec_l03Two_answer_W N 3 n18 0 s5 0 n17 n18 (k 3 n18 0 n17 s5)) (g_spec_l03Two_answer_W N 0 (gpa : Int) n16 s5 0 n17 n18 (k 0 (gpa : Int) n16 n17 s5))) = k 0 (gpa : Int) ((gpa + 2048 : Nat) : Int) (st + 2) m := by
    intro acc' ha'
    obtain ⟨s1, hs1, hp⟩ := place_host (R := R) N h hn hg ha'
    refine ⟨s1, hs1, fun k => ?_⟩
    rw [hp _ _ _ h0 h1, decide_eq_false (show ¬ ((gpa + 2048 : Nat) : Int) < 0 by omega), cond_false]
    rfl
  rcases ha with rfl | rfl | rfl
  · obtain ⟨m, hm, hk⟩ := key 1 (.inl rfl)
    exact ⟨m, hm, hk⟩
  · obtain ⟨m, hm, hk⟩ := key 2 (.inr rfl)
    exact ⟨m, hm, hk⟩
  · obtain ⟨m, hm, hk⟩ := key 1 (.inl rfl)
    exact ⟨m, hm, hk⟩

theorem fin_host {s G : ByteArray} {n va e gp frame : Nat} {acc st bad : Int} (h : Host s G n) (hn : n ≤ 200) (hgp : gp + 4 ≤ 256 * n) (he : wordN G gp = e) (hfr : frame < n) (ha : acc = 1 ∨ acc = 2 ∨ acc = 3) (h0 : 0 ≤ st) (h1 : st ≤ 500) :
    ∃ (st' : Int) (m : ByteArray), Host m (setWord G gp (putE e acc : Nat)) n ∧ ∀ k : Int → Int → Int → Int → ByteArray → Option R, specFin N frame e gp 0 va acc st bad s k = k 0 ((frame * 256 + va % 256 : Nat) : Int) ((frame * 256 + va % 256 + 2048 : Nat) : Int) st' m := by
  have hlt : e < 4294967296 := by rw [← he]; exact wordN_lt _ _
  have g1 : IntKind.wrap .i64 (IntKind.wrap .i64 ((frame : Int) * 256) + Int.tmod (va : Int) 256) = ((frame * 256 + va % 256 : Nat) : Int) := by
    rw [tmod_nn (by omega), w64 (n := (frame : Int) * 256) (by omega) (by omega), w64 (by omega) (by omega)]; omega
  have hin : frame * 256 + va % 256 < 256 * n := by omega
  by_cases hm : putE e acc = e
  · have hne : (((putE e acc : Nat) : Int) != (e : Int)) = false := by rw [hm]; simp
    obtain ⟨m, hM, hk⟩ := last_host (R := R) N (bad := bad) h hn hin ha h0 (show st ≤ 1000 by omega)
    have hsame : setWord G gp (putE e acc : Nat) = G := by
      rw [hm, ← he]
      exact set_same (by have := h.gz; omega)
    refine ⟨st + 2, m, by rw [hsame]; exact hM, fun k => ?_⟩
    unfold specFin
    rw [oK_some_eq, decide_eq_false (show ¬ (frame : Int) ≥ 1024 by omega), cond_false, putE_spec hlt acc, oK_some_eq, hne, cond_false, g1]
    exact hk k
  · have hne : (((putE e acc : Nat) : Int) != (e : Int)) = true := by simp; omega
    obtain ⟨s1, hs1, hp⟩ := place_host (R := R) N h hn (gpa := gp) (by omega) (acc := 2) (.inr rfl)
    have hput := host_put ((putE e acc : Nat) : Int) hs1 hn hgp
    obtain ⟨m, hM, hk⟩ := last_host (R := R) N (bad := bad) hput hn hin ha (show 0 ≤ st + 2 by omega) (show st + 2 ≤ 1000 by omega)
    refine ⟨st + 2 + 2, m, hM, fun k => ?_⟩
    have hz := hs1.sz
    unfold specFin
    rw [oK_some_eq, decide_eq_false (show ¬ (frame : Int) ≥ 1024 by omega), cond_false, putE_spec hlt acc, oK_some_eq, hne, cond_true, hp _ _ _ h0 (by omega), decide_eq_false (show ¬ ((gp + 2048 : Nat) : Int) < 0 by omega), cond_false, spec_SetWord_eq N (show gp + 2048 + 4 ≤ s1.size by omega) (by omega), g1]
    exact hk k

theorem lt4 {a b : Nat} (h : a + 4 ≤ b) : a < b := by omega

theorem two_host {H G : ByteArray} {n root va : Nat} {acc : Int} {u : Bool} (h : Host H G n) (hn : n ≤ 200) (hr : root ≤ 255) (hv : va < 262144) (ha : acc = 1 ∨ acc = 2 ∨ acc = 3) (hf : (look G root va acc u).fault ≠ 2) :
    ∃ (c g hp st : Int) (m : ByteArray), (∀ k : Int → Int → Int → Int → ByteArray → Option R, g_spec_WalkTwo N H 0 root va acc u k = k c g hp st m) ∧ ((look G root va acc u).fault = 1 → c ≠ 0) ∧
      ((look G root va acc u).fault = 0 → c = 0 ∧ g = (look G root va acc u).pa ∧ hp = (look G root va acc u).pa + 2048 ∧ Host m (setWord G (look G root va acc u).entryAt.toNat (look G root va acc u).entry) n) := by
  have hG := host_memOk h hn
  have hgz := h.gz
  have hb : (!memOk H || (decide ((0 : Int) < 0) || (decide ((0 : Int) > 255) || (decide ((root : Int) < 0) || (decide ((root : Int) > 255) || (decide ((va : Int) < 0) || (decide ((va : Int) ≥ 262144) || !accOk acc))))))) = false := by
    rw [hG.ok, decide_eq_false (show ¬ (0 : Int) < 0 by omega), decide_eq_false (show ¬ (0 : Int) > 255 by omega), decide_eq_false (show ¬ (root : Int) < 0 by omega), decide_eq_false (show ¬ (root : Int) > 255 by omega), decide_eq_false (show ¬ (va : Int) < 0 by omega), decide_eq_false (show ¬ (va : Int) ≥ 262144 by omega)]
    rcases ha with rfl | rfl | rfl <;> rfl
  have f256 : ∀ n : Int, Int.fdiv n 256 = n / 256 := fun n => fdiv_lit n (by omega)
  have f8192 : ∀ n : Int, Int.fdiv n 8192 = n / 8192 := fun n => fdiv_lit n (by omega)
  have t32 : Int.tmod ((va : Int) / 256) 32 = (va : Int) / 256 % 32 := tmod_nn (by omega)
  have eS : IntKind.wrap .i64 (IntKind.wrap .i64 ((root : Int) * 256) + IntKind.wrap .i64 (4 * ((va : Int) / 8192))) = ((root * 256 + 4 * (va / 8192) : Nat) : Int) := by
    rw [w64 (n := (root : Int) * 256) (by omega) (by omega), w64 (n := 4 * ((va : Int) / 8192)) (by omega) (by omega), w64 (by omega) (by omega)]; omega
  have hfr : G.size / 256 = n := by omega
  revert hf
  unfold look
  dsimp only
  rw [hfr, ent_eq]
  by_cases hrn : n ≤ root
  · intro hf
    rw [decide_eq_true hrn] at hf
    exact absurd rfl hf
  rw [decide_eq_false hrn, cond_false]
  have hat1 : root * 256 + 4 * (va / 8192) + 4 ≤ 256 * n := by omega
  obtain ⟨at1, hA1⟩ : ∃ a, root * 256 + 4 * (va / 8192) = a := ⟨_, rfl⟩
  rw [hA1] at eS hat1 ⊢
  obtain ⟨s1, hs1, hp1⟩ := place_host (R := R) N h hn (gpa := at1) (lt4 hat1) (acc := 1) (.inl rfl)
  have hz1 := hs1.sz
  have hw1 := host_word hs1 hat1
  have hc1 := wordN_cast s1 (at1 + 2048)
  rw [hw1] at hc1
  have hlt := wordN_lt G at1
  generalize hge : wordN G at1 = e at hc1 hlt hw1 ⊢
  have ed : (e : Int) / 256 = ((e / 256 : Nat) : Int) := by omega
  have st1 : IntKind.wrap .i64 (0 + 2 + 1) = 0 + 2 + 1 := w64 (by omega) (by omega)
  have hpa1 : ¬ ((at1 + 2048 : Nat) : Int) < 0 := by omega
  cases hld : leadsOn e with
  | true =>
    rw [cond_true]
    by_cases hen : n ≤ e / 256
    · intro hf
      rw [decide_eq_true hen] at hf
      exact absurd rfl hf
    rw [decide_eq_false hen, cond_false, ent_eq]
    have eI2 : IntKind.wrap .i64 (IntKind.wrap .i64 (((e / 256 : Nat) : Int) * 256) + IntKind.wrap .i64 (4 * ((va : Int) / 256 % 32))) = ((e / 256 * 256 + 4 * (va / 256 % 32) : Nat) : Int) := by
      rw [w64 (n := ((e / 256 : Nat) : Int) * 256) (by omega) (by omega), w64 (n := 4 * ((va : Int) / 256 % 32)) (by omega) (by omega), w64 (by omega) (by omega)]; omega
    have hat2 : e / 256 * 256 + 4 * (va / 256 % 32) + 4 ≤ 256 * n := by omega
    obtain ⟨at2, hA2⟩ : ∃ a, e / 256 * 256 + 4 * (va / 256 % 32) = a := ⟨_, rfl⟩
    rw [hA2] at eI2 hat2 ⊢
    obtain ⟨s2, hs2, hp2⟩ := place_host (R := R) N hs1 hn (gpa := at2) (lt4 hat2) (acc := 1) (.inl rfl)
    have hz2 := hs2.sz
    have hw2 := host_word hs2 hat2
    have hc2 := wordN_cast s2 (at2 + 2048)
    rw [hw2] at hc2
    have hlt2 := wordN_lt G at2
    generalize hge2 : wordN G at2 = e2 at hc2 hlt2 hw2 ⊢
    have ed2 : (e2 : Int) / 256 = ((e2 / 256 : Nat) : Int) := by omega
    have st2 : IntKind.wrap .i64 (0 + 2 + 1 + 2 + 1) = 0 + 2 + 1 + 2 + 1 := w64 (by omega) (by omega)
    have hpa2 : ¬ ((at2 + 2048 : Nat) : Int) < 0 := by omega
    cases hle : letsB (low8 e2) acc u with
    | false =>
      intro _
      refine ⟨1, 0, 0, 0 + 2 + 1 + 2 + 1, s2, fun k => ?_, fun _ => by decide, fun x => absurd (show (1 : Int) = 0 from x) (by decide)⟩
      unfold g_spec_WalkTwo
      rw [spec_MemFault_eq, spec_l03Acc_all, spec_two_test, hb, cond_false, f8192, eS, hp1 _ _ _ (by omega) (by omega), decide_eq_false hpa1, cond_false, spec_l01Word_eq N (by omega) (by omega), hc1, leads_eq, oK_some_eq, hld, cond_true, f256, ed, decide_eq_false (show ¬ ((e / 256 : Nat) : Int) ≥ 1024 by omega), cond_false, st1, f256, t32, eI2, hp2 _ _ _ (by omega) (by omega), decide_eq_false hpa2, cond_false, spec_l01Word_eq N (by omega) (by omega), hc2, may_eq, hle, Bool.not_false, oK_some_eq, cond_true, st2]
      rfl
    | true =>
      rw [Bool.not_true, cond_false]
      by_cases hen2 : n ≤ e2 / 256
      · intro hf
        rw [decide_eq_true hen2] at hf
        exact absurd rfl hf
      rw [decide_eq_false hen2, cond_false]
      intro _
      obtain ⟨st', m, hM, hk⟩ := fin_host (R := R) N (va := va) (bad := 0) hs2 hn hat2 hge2 (show e2 / 256 < n by omega) ha (show (0 : Int) ≤ 0 + 2 + 1 + 2 + 1 by omega) (by omega)
      refine ⟨0, ((e2 / 256 * 256 + va % 256 : Nat) : Int), ((e2 / 256 * 256 + va % 256 + 2048 : Nat) : Int), st', m, fun k => ?_, fun x => absurd (show (0 : Int) = 1 from x) (by decide), fun _ => ⟨rfl, rfl, ?_, hM⟩⟩
      · unfold g_spec_WalkTwo
        rw [spec_MemFault_eq, spec_l03Acc_all, spec_two_test, hb, cond_false, f8192, eS, hp1 _ _ _ (by omega) (by omega), decide_eq_false hpa1, cond_false, spec_l01Word_eq N (by omega) (by omega), hc1, leads_eq, oK_some_eq, hld, cond_true, f256, ed, decide_eq_false (show ¬ ((e / 256 : Nat) : Int) ≥ 1024 by omega), cond_false, st1, f256, t32, eI2, hp2 _ _ _ (by omega) (by omega), decide_eq_false hpa2, cond_false, spec_l01Word_eq N (by omega) (by omega), hc2, may_eq, hle, Bool.not_true, oK_some_eq, cond_false, st2, f256, ed2]
        exact hk k
      · show ((e2 / 256 * 256 + va % 256 + 2048 : Nat) : Int) = ((e2 / 256 * 256 + va % 256 : Nat) : Int) + 2048
        omega
  | false =>
    rw [cond_false]
    have eF : IntKind.wrap .i64 (((e / 256 : Nat) : Int) + (va : Int) / 256 % 32) = ((e / 256 + va / 256 % 32 : Nat) : Int) := by rw [w64 (by omega) (by omega)]; omega
    have h32 : (Int.tmod ((e / 256 : Nat) : Int) 32 != 0) = !(e / 256 % 32 == 0) := by
      rw [tmod_nn (by omega), bne]
      congr 1
      rw [Bool.eq_iff_iff]
      simp
      omega
    cases hq : (e / 256 % 32 == 0) with
    | false =>
      rw [Bool.not_false, cond_true]
      intro _
      refine ⟨1, 0, 0, 0 + 2 + 1, s1, fun k => ?_, fun _ => by decide, fun x => absurd (show (1 : Int) = 0 from x) (by decide)⟩
      unfold g_spec_WalkTwo
      rw [spec_MemFault_eq, spec_l03Acc_all, spec_two_test, hb, cond_false, f8192, eS, hp1 _ _ _ (by omega) (by omega), decide_eq_false hpa1, cond_false, spec_l01Word_eq N (by omega) (by omega), hc1, leads_eq, oK_some_eq, hld, cond_false, f256, ed, may_eq32, oK_some_eq, h32, hq, Bool.not_false, Bool.true_or, cond_true, st1]
      rfl
    | true =>
      rw [Bool.not_true, cond_false]
      cases hle : letsB (low8 e) acc u with
      | false =>
        rw [Bool.not_false, cond_true]
        intro _
        refine ⟨1, 0, 0, 0 + 2 + 1, s1, fun k => ?_, fun _ => by decide, fun x => absurd (show (1 : Int) = 0 from x) (by decide)⟩
        unfold g_spec_WalkTwo
        rw [spec_MemFault_eq, spec_l03Acc_all, spec_two_test, hb, cond_false, f8192, eS, hp1 _ _ _ (by omega) (by omega), decide_eq_false hpa1, cond_false, spec_l01Word_eq N (by omega) (by omega), hc1, leads_eq, oK_some_eq, hld, cond_false, f256, ed, may_eq32, oK_some_eq, h32, hq, hle, Bool.not_false, Bool.or_true, cond_true, st1]
        rfl
      | true =>
        rw [Bool.not_true, cond_false]
        by_cases hen2 : n ≤ e / 256 + va / 256 % 32
        · intro hf
          rw [decide_eq_true hen2] at hf
          exact absurd rfl hf
        rw [decide_eq_false hen2, cond_false]
        intro _
        obtain ⟨st', m, hM, hk⟩ := fin_host (R := R) N (va := va) (bad := 0) hs1 hn hat1 hge (show e / 256 + va / 256 % 32 < n by omega) ha (show (0 : Int) ≤ 0 + 2 + 1 by omega) (by omega)
        refine ⟨0, (((e / 256 + va / 256 % 32) * 256 + va % 256 : Nat) : Int), (((e / 256 + va / 256 % 32) * 256 + va % 256 + 2048 : Nat) : Int), st', m, fun k => ?_, fun x => absurd (show (0 : Int) = 1 from x) (by decide), fun _ => ⟨rfl, rfl, ?_, hM⟩⟩
        · unfold g_spec_WalkTwo
          rw [spec_MemFault_eq, spec_l03Acc_all, spec_two_test, hb, cond_false, f8192, eS, hp1 _ _ _ (by omega) (by omega), decide_eq_false hpa1, cond_false, spec_l01Word_eq N (by omega) (by omega), hc1, leads_eq, oK_some_eq, hld, cond_false, f256, ed, may_eq32, oK_some_eq, h32, hq, hle, Bool.not_true, Bool.or_self, cond_false, st1, f256, t32, eF]
          exact hk k
        · show (((e / 256 + va / 256 % 32) * 256 + va % 256 + 2048 : Nat) : Int) = (((e / 256 + va / 256 % 32) * 256 + va % 256 : Nat) : Int) + 2048
          omega


theorem hosts_go {s2 s3 : ByteArray} {n7 n8 n9 n11 n12 n13 : Int} {b4 b6 b7 : Bool} {l2 l3 : List Int} {n : Nat} (hs : s2.size = 256 * n) (hn : n ≤ 200) (kN : Bool → List PageMap → Option R) :
    ∀ (d f i : Nat) (b5 : Bool) (l4 : List PageMap), i + d = n → d < f → l4.length = i → (∀ j, j < i → nth l4 j = some (hostMap j)) →
    ∃ (b' : Bool) (L : List PageMap), L.length = n ∧ (∀ j, j < n → nth L j = some (hostMap j)) ∧ l_laws_FnTwoWalks_r_0 N s2 n7 n8 n9 b4 l2 n11 n12 n13 b6 b7 s3 l3 kN f b5 (i : Int) l4 = kN b' L := by
  have hsz : IntKind.wrap .i64 (Int.tdiv (s2.size : Int) 256) = ((n : Nat) : Int) := by
    rw [tdiv_nn (by omega), w64 (by omega) (by omega)]; omega
  intro d
  induction d with
  | zero =>
    intro f i b5 l4 hi hf hl h
    obtain ⟨f, rfl⟩ : ∃ j, f = j + 1 := ⟨f - 1, by omega⟩
    refine ⟨b5, l4, by omega, by rw [show n = i by omega]; exact h, ?_⟩
    rw [l_laws_FnTwoWalks_r_0, s_laws_FnTwoWalks_r_0, hsz, decide_eq_false (show ¬ (i : Int) < (n : Int) by omega), cond_false]
  | succ d ih =>
    intro f i b5 l4 hi hf hl h
    obtain ⟨f, rfl⟩ : ∃ j, f = j + 1 := ⟨f - 1, by omega⟩
    have e1 : IntKind.wrap .i64 ((i : Int) * 256) = ((i * 256 : Nat) : Int) := by rw [w64 (by omega) (by omega)]; omega
    have e2 : IntKind.wrap .i64 (8 + (i : Int)) = ((8 + i : Nat) : Int) := by rw [w64 (by omega) (by omega)]; omega
    have e3 : IntKind.wrap .i64 ((i : Int) + 1) = ((i + 1 : Nat) : Int) := by rw [w64 (by omega) (by omega)]; omega
    have hm : (PageMap.mk ((i * 256 : Nat) : Int) ((8 + i : Nat) : Int) 6 false) = hostMap i := rfl
    obtain ⟨b', L, g1, g2, g3⟩ := ih f (i + 1) (cond (Nat.beq (List.length [hostMap i]) 0) b5 false) (l4 ++ [hostMap i]) (by omega) (by omega) (by rw [List.length_append, hl]; rfl) (fun j hj => by
      rw [nth_append, hl]
      by_cases hji : j < i
      · rw [if_pos hji]; exact h j hji
      · rw [if_neg hji, show j = i by omega, Nat.sub_self]; rfl)
    refine ⟨b', L, g1, g2, ?_⟩
    rw [l_laws_FnTwoWalks_r_0, s_laws_FnTwoWalks_r_0, hsz, decide_eq_true (show (i : Int) < (n : Int) by omega), cond_true, e1, e2, e3, hm, hl, List.length_singleton, room (by omega) (by omega), cond_true]
    exact g3

theorem two_tail {H s1 : ByteArray} {n n1 n2 n4 n5 : Int} {b1 : Bool}
    (hc : ∃ (c g h st : Int) (m : ByteArray), (∀ k : Int → Int → Int → Int → ByteArray → Option R, g_impl_WalkTwo N H 0 n n1 n2 b1 k = k c g h st m) ∧ (∀ k : Int → Int → Int → Int → ByteArray → Option R, g_spec_WalkTwo N H 0 n n1 n2 b1 k = k c g h st m) ∧
      ((s1 = ⟨[].toArray⟩ ∨ n4 ≠ 0) → c ≠ 0 ∨ m = ⟨[].toArray⟩ ∨ n4 = 2) ∧ (s1 ≠ ⟨[].toArray⟩ → n4 = 0 → c = 0 ∧ g = n5 ∧ h = IntKind.wrap .i64 (n5 + 2048) ∧ 2048 ≤ m.size ∧ m.extract 2048 m.size = s1)) (k : Bool → Option R) :
    (g_impl_WalkTwo N H (0 : Int) n n1 n2 b1 fun n16 n17 n18 n19 s5 =>
          (g_spec_WalkTwo N H (0 : Int) n n1 n2 b1 fun n20 n21 n22 n23 s6 =>
          (oK (cond (n16 != n20)
            (some true)
            (cond (n18 != n22)
              (some true)
              (some (!(decide (s5 = s6)))))) fun j1 =>
          (cond j1
          (k false)
          (oK (cond (decide (s1 = (ByteArray.mk (List.toArray []))))
              (some true)
              (some (n4 != (0 : Int)))) fun j2 =>
            (cond j2
            (oK (cond (n16 != (0 : Int))
                (some true)
                (cond (decide (s5 = (ByteArray.mk (List.toArray []))))
                  (some true)
                  (some (n4 == (2 : Int))))) fun j3 =>
              (k j3))
            (oK (cond (n16 == (0 : Int))
                (cond (n17 == n5)
                  (cond (n18 == (IntKind.wrap .i64 (n5 + (2048 : Int))))
                    (cond ((decide ((2048 : Int) ≤ (((ByteArray.size s5) : Nat) : Int))) && (decide (((((ByteArray.size s5) : Nat) : Int) ≤ (((ByteArray.size s5) : Nat) : Int)))))
                      (some (decide ((ByteArray.extract s5 2048 (Int.toNat (((ByteArray.size s5) : Nat) : Int))) = s1)))
                      none)
                    (some false))
                  (some false))
                (some false)) fun j4 =>
              (k j4)))))))) = k true := by
  obtain ⟨c, g, h, st, m, hI, hS, h1, h2⟩ := hc
  rw [hI, hS, bne_self_eq_false, cond_false, bne_self_eq_false, cond_false, decide_eq_true (rfl : m = m), Bool.not_true, oK_some_eq, cond_false]
  by_cases hs1 : s1 = ⟨[].toArray⟩ ∨ n4 ≠ 0
  · have hj2 : (cond (decide (s1 = (ByteArray.mk (List.toArray [])))) (some true) (some (n4 != (0 : Int)))) = some true := by
      by_cases hq : s1 = ⟨[].toArray⟩
      · rw [decide_eq_true hq, cond_true]
      · rw [decide_eq_false hq, cond_false]
        rcases hs1 with hs1 | hs1
        · exact absurd hs1 hq
        · have : (n4 != 0) = true := by simpa using hs1
          rw [this]
    rw [hj2, oK_some_eq, cond_true]
    have hj3 : (cond (c != (0 : Int)) (some true) (cond (decide (m = (ByteArray.mk (List.toArray [])))) (some true) (some (n4 == (2 : Int))))) = some true := by
      by_cases hc0 : c = 0
      · rw [hc0, bne_self_eq_false, cond_false]
        by_cases hm : m = ⟨[].toArray⟩
        · rw [decide_eq_true hm, cond_true]
        · rw [decide_eq_false hm, cond_false]
          rcases h1 hs1 with hx | hx | hx
          · exact absurd hc0 hx
          · exact absurd hx hm
          · rw [hx]; rfl
      · have : (c != 0) = true := by simpa using hc0
        rw [this, cond_true]
    rw [hj3, oK_some_eq]
  · have hq : ¬ s1 = ⟨[].toArray⟩ := fun x => hs1 (.inl x)
    have hn : n4 = 0 := Classical.byContradiction fun x => hs1 (.inr x)
    obtain ⟨a1, a2, a3, a4, a5⟩ := h2 hq hn
    rw [decide_eq_false hq, cond_false, hn, bne_self_eq_false, oK_some_eq, cond_false, a1, a2, a3, beq_self_eq_true, cond_true, beq_self_eq_true, cond_true, beq_self_eq_true, cond_true, decide_eq_true (show (2048 : Int) ≤ (m.size : Int) by omega), decide_eq_true (Int.le_refl (m.size : Int)), Bool.and_self, cond_true, Int.toNat_natCast, a5, decide_eq_true (rfl : s1 = s1), oK_some_eq]

theorem two_none {H : ByteArray} {n n1 n2 : Int} {u : Bool} (h : twoBad H 0 n n1 n2 = true) (k : Int → Int → Int → Int → ByteArray → Option R) : g_spec_WalkTwo N H 0 n n1 n2 u k = k 0 0 0 0 ⟨[].toArray⟩ := by
  have hb : (!memOk H || (decide ((0 : Int) < 0) || (decide ((0 : Int) > 255) || (decide (n < 0) || (decide (n > 255) || (decide (n1 < 0) || (decide (n1 ≥ 262144) || !accOk n2))))))) = twoBad H 0 n n1 n2 := by
    unfold twoBad
    have a3 : decide (n < 0) = !decide (n ≥ 0) := by rw [← decide_not]; exact decide_eq_decide.2 (by omega)
    have a4 : decide (n > 255) = !decide (n ≤ 255) := by rw [← decide_not]; exact decide_eq_decide.2 (by omega)
    have a5 : decide (n1 < 0) = !decide (n1 ≥ 0) := by rw [← decide_not]; exact decide_eq_decide.2 (by omega)
    have a6 : decide (n1 ≥ 262144) = !decide (n1 ≤ 262143) := by rw [← decide_not]; exact decide_eq_decide.2 (by omega)
    have a1 : decide ((0 : Int) < 0) = false := rfl
    have a2 : decide ((0 : Int) > 255) = false := rfl
    have c1 : decide ((0 : Int) ≥ 0) = true := rfl
    have c2 : decide ((0 : Int) ≤ 255) = true := rfl
    rw [a1, a2, c1, c2, a3, a4, a5, a6]
    cases memOk H <;> cases decide (n ≥ 0) <;> cases decide (n ≤ 255) <;> cases decide (n1 ≥ 0) <;> cases decide (n1 ≤ 262143) <;> rfl
  unfold g_spec_WalkTwo
  rw [spec_MemFault_eq, spec_l03Acc_all, spec_two_test, hb, h, cond_true]

theorem spec_Walk_bad {s : ByteArray} {root va acc : Int} {u : Bool} (h : twoBad s 0 root va acc = true) (k : Int → Int → Int → Bool → Bool → ByteArray → List Int → Option R) : g_spec_Walk N s root va acc u k = k 0 0 0 false true ⟨[].toArray⟩ [] := by
  have a3 : decide (root < 0) = !decide (root ≥ 0) := by rw [← decide_not]; exact decide_eq_decide.2 (by omega)
  have a4 : decide (root > 255) = !decide (root ≤ 255) := by rw [← decide_not]; exact decide_eq_decide.2 (by omega)
  have a5 : decide (va < 0) = !decide (va ≥ 0) := by rw [← decide_not]; exact decide_eq_decide.2 (by omega)
  have a6 : decide (va ≥ 262144) = !decide (va ≤ 262143) := by rw [← decide_not]; exact decide_eq_decide.2 (by omega)
  have h1 : (!memOk s || !(decide (root ≥ 0) && decide (root ≤ 255) && (decide (va ≥ 0) && decide (va ≤ 262143)) && accOk acc)) = true := by unfold twoBad at h; exact h
  unfold g_spec_Walk
  rw [spec_MemFault_eq, spec_l03Acc_all, a3, a4, a5, a6]
  have ht : ∀ (a d e f g h : Bool) (K : Bool → Option R), (!a || !(d && e && (f && g) && h)) = true → (oK (cond ((cond a (0 : Int) 1) != 0) (some true) (cond (!d) (some true) (cond (!e) (some true) (cond (!f) (some true) (cond (!g) (some true) (some (!h))))))) K) = K true := fun a d e f g h K => by cases a <;> cases d <;> cases e <;> cases f <;> cases g <;> cases h <;> intro hh <;> first | rfl | cases hh
  rw [ht _ _ _ _ _ _ _ h1, cond_true]

theorem bt_zer (n i : Nat) : bt (toBytes (seg (List.replicate n (0 : Int)) 0 n)) i = 0 := by
  by_cases hi : i < n
  · have h1 : (toBytes (seg (List.replicate n (0 : Int)) 0 n)).size = n := by
      have hq := seg_all (List.replicate n (0 : Int))
      rw [List.length_replicate] at hq
      rw [hq, toBytes_size, List.length_replicate]
    have hq := seg_all (List.replicate n (0 : Int))
    rw [List.length_replicate] at hq
    have h2 := nth_ofBytes (s := toBytes (List.replicate n (0 : Int))) (i := i) (by rw [toBytes_size, List.length_replicate]; exact hi)
    rw [ofBytes_toBytes (fun x hx => by rw [List.eq_of_mem_replicate hx]; omega)] at h2
    rw [nth_eq, List.getElem?_replicate, if_pos hi] at h2
    rw [hq]
    exact (Option.some.inj h2).symm
  · refine bt_ge ?_
    have hq := seg_all (List.replicate n (0 : Int))
    rw [List.length_replicate] at hq
    rw [hq, toBytes_size, List.length_replicate]
    omega


def zpre : ByteArray := toBytes (seg (List.replicate 2048 (0 : Int)) 0 2048)

theorem zpre_size : zpre.size = 2048 := by
  unfold zpre
  have hq := seg_all (List.replicate 2048 (0 : Int))
  rw [List.length_replicate] at hq
  rw [hq, toBytes_size, List.length_replicate]

theorem bt_zpre (i : Nat) : bt zpre i = 0 := bt_zer 2048 i

theorem host_start {s : ByteArray} {n : Nat} (hs : s.size = 256 * n) : HInv (zpre ++ s) (zpre ++ s) 0 0 := by
  refine ⟨rfl, rfl, fun r hr _ => ?_, fun r hr => absurd hr (by omega), fun j hj => absurd hj (by omega), fun _ _ => rfl⟩
  have hb : ∀ q, q < 2048 → bt (zpre ++ s) q = 0 := fun q hq => by
    rw [bt_append_left (by rw [zpre_size]; exact hq)]
    exact bt_zpre q
  unfold wordN wordAt
  rw [ent_eq, hb _ (by omega), hb _ (by omega), hb _ (by omega), hb _ (by omega)]
  rfl

theorem host_of {s M : ByteArray} {n p : Nat} (hs : s.size = 256 * n) (h : HInv (zpre ++ s) M n p) : Host M s n := by
  refine ⟨by rw [h.sz, ByteArray.size_append, zpre_size, hs], hs, fun r hr => h.root r hr, fun j hj => by rw [h.leaf j hj]; exact wEq.refl _, fun q hq => ?_⟩
  rw [h.out _ (by omega)]
  have := bt_append_right (s := zpre) (t := s) q
  rw [zpre_size] at this
  exact this

theorem host_ext {m G : ByteArray} {n : Nat} (h : Host m G n) : 2048 ≤ m.size ∧ m.extract 2048 m.size = G := by
  have h1 := h.sz
  have h2 := h.gz
  have h3 : (m.extract 2048 m.size).size = 256 * n := by rw [ByteArray.size_extract]; omega
  refine ⟨by omega, bytes_ext (by omega) fun i hi => ?_⟩
  rw [bt_extract (by omega)]
  exact h.gst i (by omega)

def FV (w : Look) : Prop := w.fault = 0 ∨ w.fault = 1 ∨ w.fault = 2

theorem fv0 {w : Look} (h : w.fault = 0) : FV w := Or.inl h

theorem fv1 {w : Look} (h : w.fault = 1) : FV w := Or.inr (Or.inl h)

theorem fv2 {w : Look} (h : w.fault = 2) : FV w := Or.inr (Or.inr h)

theorem fvc {t : Bool} {X Y : Look} (hx : FV X) (hy : FV Y) : FV (cond t X Y) := by
  cases t
  · exact hy
  · exact hx

theorem look_fault (s : ByteArray) (root va : Nat) (acc : Int) (u : Bool) : FV (look s root va acc u) := by
  unfold look
  dsimp only
  exact fvc (fv2 rfl) (fvc (fvc (fv2 rfl) (fvc (fv1 rfl) (fvc (fv2 rfl) (fv0 rfl)))) (fvc (fv1 rfl) (fvc (fv1 rfl) (fvc (fv2 rfl) (fv0 rfl)))))

theorem two_ok {H s : ByteArray} {n root va : Nat} {acc : Int} {u : Bool} (h : Host H s n) (hn : n ≤ 200) (hr : root ≤ 255) (hv : va < 262144) (ha : acc = 1 ∨ acc = 2 ∨ acc = 3) (hg : Good s) :
    ∃ (c g h st : Int) (m : ByteArray), (∀ k : Int → Int → Int → Int → ByteArray → Option R, g_impl_WalkTwo N H 0 root va acc u k = k c g h st m) ∧ (∀ k : Int → Int → Int → Int → ByteArray → Option R, g_spec_WalkTwo N H 0 root va acc u k = k c g h st m) ∧
      (((cond ((look s root va acc u).fault == 0) (setWord s (look s root va acc u).entryAt.toNat (look s root va acc u).entry) s) = ⟨[].toArray⟩ ∨ (look s root va acc u).fault ≠ 0) → c ≠ 0 ∨ m = ⟨[].toArray⟩ ∨ (look s root va acc u).fault = 2) ∧
      ((cond ((look s root va acc u).fault == 0) (setWord s (look s root va acc u).entryAt.toNat (look s root va acc u).entry) s) ≠ ⟨[].toArray⟩ → (look s root va acc u).fault = 0 → c = 0 ∧ g = (look s root va acc u).pa ∧ h = IntKind.wrap .i64 ((look s root va acc u).pa + 2048) ∧ 2048 ≤ m.size ∧ m.extract 2048 m.size = (cond ((look s root va acc u).fault == 0) (setWord s (look s root va acc u).entryAt.toNat (look s root va acc u).entry) s)) := by
  obtain ⟨c, g, hp, st, m, hI, hS⟩ := WalkTwo_both (R := R) N (s := H) (host := 0) (root := root) (va := va) (acc := acc) (u := u)
  by_cases hf : (look s root va acc u).fault = 2
  · refine ⟨c, g, hp, st, m, hI, hS, fun _ => .inr (.inr hf), fun _ h0 => ?_⟩
    rw [hf] at h0
    exact absurd h0 (by decide)
  · obtain ⟨c', g', hp', st', m', hS', h1, h2⟩ := two_host (R := R) N h hn hr hv ha hf
    have hI' : ∀ k : Int → Int → Int → Int → ByteArray → Option R, g_impl_WalkTwo N H 0 root va acc u k = k c' g' hp' st' m' := fun k => (hI k).trans ((hS k).symm.trans (hS' k))
    have hfv : (look s root va acc u).fault = 0 ∨ (look s root va acc u).fault = 1 ∨ (look s root va acc u).fault = 2 := by
      exact look_fault s root va acc u
    have hgz := h.gz
    refine ⟨c', g', hp', st', m', hI', hS', fun hx => ?_, fun hx h0 => ?_⟩
    · by_cases h0 : (look s root va acc u).fault = 0
      · exfalso
        rcases hx with hx | hx
        · obtain ⟨a, t, i, rfl, g1, g2, g3, g4, g5, g6⟩ := look_ok (u := u) hg.fr hv h0
          have hin : ent t i + 4 ≤ s.size := by rw [ent_eq]; have := hg.fr; omega
          have hz := setWord_size hin (look s root va acc u).entry
          have hz2 := congrArg ByteArray.size hx
          rw [show ((look s root va acc u).fault == 0) = true by rw [h0]; rfl, cond_true, g3, Int.toNat_natCast, hz] at hz2
          have h5 : (⟨[].toArray⟩ : ByteArray).size = 0 := rfl
          rw [h5] at hz2
          omega
        · exact hx h0
      · have : (look s root va acc u).fault = 1 := by
          rcases hfv with h | h | h
          · exact absurd h h0
          · exact h
          · exact absurd h hf
        exact .inl (h1 this)
    · obtain ⟨a1, a2, a3, a4⟩ := h2 h0
      obtain ⟨b1, b2⟩ := host_ext a4
      obtain ⟨f, t, i, hf1, ht, hi, hpa, hea⟩ := (look_facts s (root := root) acc u hv).2 h0
      refine ⟨a1, a2, ?_, b1, ?_⟩
      · rw [a3, w64 (by omega) (by omega)]
      · rw [b2, show ((look s root va acc u).fault == 0) = true by rw [h0]; rfl, cond_true]

theorem two_rest {s : ByteArray} {root va acc : Int} {u : Bool} {l : List Int} {n : Nat} (hn : s.size = 256 * n) (hn200 : n ≤ 200) (hn1 : 1 ≤ n) (hN : 2 ^ 40 < N) (n4 n5 n6 : Int) (b2 b3 : Bool) (s1 : ByteArray) (l1 : List Int)
    (hH : ∀ H, Host H s n → ∃ (c g h st : Int) (m : ByteArray), (∀ k : Int → Int → Int → Int → ByteArray → Option R, g_impl_WalkTwo N H 0 root va acc u k = k c g h st m) ∧ (∀ k : Int → Int → Int → Int → ByteArray → Option R, g_spec_WalkTwo N H 0 root va acc u k = k c g h st m) ∧
      ((s1 = ⟨[].toArray⟩ ∨ n4 ≠ 0) → c ≠ 0 ∨ m = ⟨[].toArray⟩ ∨ n4 = 2) ∧ (s1 ≠ ⟨[].toArray⟩ → n4 = 0 → c = 0 ∧ g = n5 ∧ h = IntKind.wrap .i64 (n5 + 2048) ∧ 2048 ≤ m.size ∧ m.extract 2048 m.size = s1)) (k : Bool → Option R) :
    c_laws_FnTwoWalks_r_0 N s root va acc u l n4 n5 n6 b2 b3 s1 l1 false (0 : Int) [] (fun b8 l5 =>
      (cond (Nat.ble (2048 + (ByteArray.size s)) 9223372036854775807)
      (g_spec_MapPages_ww N ((toBytes (seg (List.replicate 2048 (0 : Int)) 0 2048)) ++ s) (0 : Int) b8 false l5 [(1 : Int), (2 : Int), (3 : Int), (4 : Int), (5 : Int), (6 : Int), (7 : Int)] (fun n14 n15 s4 b9 l6 l7 l8 =>
        (cond (n14 != (0 : Int))
        (k true)
        (g_impl_WalkTwo N s4 (0 : Int) root va acc u fun n16 n17 n18 n19 s5 =>
          (g_spec_WalkTwo N s4 (0 : Int) root va acc u fun n20 n21 n22 n23 s6 =>
          (oK (cond (n16 != n20)
            (some true)
            (cond (n18 != n22)
              (some true)
              (some (!(decide (s5 = s6)))))) fun j1 =>
          (cond j1
          (k false)
          (oK (cond (decide (s1 = (ByteArray.mk (List.toArray []))))
              (some true)
              (some (n4 != (0 : Int)))) fun j2 =>
            (cond j2
            (oK (cond (n16 != (0 : Int))
                (some true)
                (cond (decide (s5 = (ByteArray.mk (List.toArray []))))
                  (some true)
                  (some (n4 == (2 : Int))))) fun j3 =>
              (k j3))
            (oK (cond (n16 == (0 : Int))
                (cond (n17 == n5)
                  (cond (n18 == (IntKind.wrap .i64 (n5 + (2048 : Int))))
                    (cond ((decide ((2048 : Int) ≤ (((ByteArray.size s5) : Nat) : Int))) && (decide (((((ByteArray.size s5) : Nat) : Int) ≤ (((ByteArray.size s5) : Nat) : Int)))))
                      (some (decide ((ByteArray.extract s5 2048 (Int.toNat (((ByteArray.size s5) : Nat) : Int))) = s1)))
                      none)
                    (some false))
                  (some false))
                (some false)) fun j4 =>
              (k j4)))))))))) (fun s7 m m1 m2 b10 l9 l10 l11 =>
        (g_impl_WalkTwo N s7 (0 : Int) root va acc u fun n16 n17 n18 n19 s5 =>
          (g_spec_WalkTwo N s7 (0 : Int) root va acc u fun n20 n21 n22 n23 s6 =>
          (oK (cond (n16 != n20)
            (some true)
            (cond (n18 != n22)
              (some true)
              (some (!(decide (s5 = s6)))))) fun j1 =>
          (cond j1
          (k false)
          (oK (cond (decide (s1 = (ByteArray.mk (List.toArray []))))
              (some true)
              (some (n4 != (0 : Int)))) fun j2 =>
            (cond j2
            (oK (cond (n16 != (0 : Int))
                (some true)
                (cond (decide (s5 = (ByteArray.mk (List.toArray []))))
                  (some true)
                  (some (n4 == (2 : Int))))) fun j3 =>
              (k j3))
            (oK (cond (n16 == (0 : Int))
                (cond (n17 == n5)
                  (cond (n18 == (IntKind.wrap .i64 (n5 + (2048 : Int))))
                    (cond ((decide ((2048 : Int) ≤ (((ByteArray.size s5) : Nat) : Int))) && (decide (((((ByteArray.size s5) : Nat) : Int) ≤ (((ByteArray.size s5) : Nat) : Int)))))
                      (some (decide ((ByteArray.extract s5 2048 (Int.toNat (((ByteArray.size s5) : Nat) : Int))) = s1)))
                      none)
                    (some false))
                  (some false))
                (some false)) fun j4 =>
              (k j4))))))))))
      none)) = k true := by
  obtain ⟨b', L, hL, hnth, hloop⟩ := hosts_go N (s2 := s) (s3 := s1) (n7 := root) (n8 := va) (n9 := acc) (n11 := n4) (n12 := n5) (n13 := n6) (b4 := u) (b6 := b2) (b7 := b3) (l2 := l) (l3 := l1) hn hn200 _ n N 0 false [] (by omega) (by omega) rfl (fun j hj => absurd hj (by omega))
  unfold c_laws_FnTwoWalks_r_0
  refine hloop.trans ?_
  rw [ble_t (by omega), cond_true]
  have hZ : (zpre ++ s).size = 2048 + 256 * n := by rw [ByteArray.size_append, zpre_size, hn]
  have hmz : memOk (zpre ++ s) = true := memOk_of (n := 8 + n) (by omega) (by omega) (by omega)
  obtain ⟨b'', hMP⟩ := MapPages_ww_eq (R := R) N (s := zpre ++ s) (r := 0) (b := b') (b1 := false) (l := L) (l1 := hostFree) (by omega) (by omega) hmz (by omega) (by omega) (by decide) (fun x hx => by
    have : ∀ x ∈ hostFree, ∃ y : Nat, x = (y : Int) ∧ y < 8 := by
      intro x hx
      unfold hostFree at hx
      simp only [List.mem_cons, List.not_mem_nil, or_false] at hx
      rcases hx with rfl | rfl | rfl | rfl | rfl | rfl | rfl
      · exact ⟨1, rfl, by omega⟩
      · exact ⟨2, rfl, by omega⟩
      · exact ⟨3, rfl, by omega⟩
      · exact ⟨4, rfl, by omega⟩
      · exact ⟨5, rfl, by omega⟩
      · exact ⟨6, rfl, by omega⟩
      · exact ⟨7, rfl, by omega⟩
    obtain ⟨y, hy, hy8⟩ := this x hx
    exact ⟨y, hy, by omega⟩) hN
  refine (hMP _ _).trans ?_
  have hrun := host_run (s0 := zpre ++ s) (maps := L) (n := n) hn200 hnth (by omega) n 0 (zpre ++ s) 0 (by omega) (host_start hn)
  rw [hL]
  generalize runM 0 hostFree L n 0 (zpre ++ s) 0 = o at hrun ⊢
  cases hc : (o.code != 0) with
  | true =>
    rw [cond_true]
    first | (rw [cond_true]; done) | (rw [hc, cond_true]; done) | (show cond (o.code != 0) (k true) _ = _; rw [hc, cond_true])
  | false =>
    rw [cond_false]
    rcases hrun with hrun | hrun
    · exact absurd (by simpa using hc) hrun
    · have hH2 := hH o.mem (host_of hn hrun)
      cases Nat.beq o.took 0 with
      | true =>
        rw [cond_true]
        show cond ((0 : Int) != 0) (k true) _ = _
        rw [bne_self_eq_false, cond_false]
        exact two_tail N hH2 k
      | false =>
        rw [cond_false]
        exact two_tail N hH2 k

theorem law_FnTwoWalks {b : Bool} {l : List Int} (hN : 2 ^ 40 < N) (k : Bool → Option R) : g_laws_FnTwoWalks_r N b l k = k true := by
  unfold g_laws_FnTwoWalks_r
  by_cases hl : (l.length : Int) > 1048576
  · rw [decide_eq_true hl]; rfl
  rw [decide_eq_false hl, cond_false]
  obtain ⟨s, root, va, acc, u, hs, hk⟩ := DrawWalk_ok (R := R) N (b := b) (l := l) (by omega) hN
  rw [hk]
  clear hk
  rw [spec_MemFault_eq]
  cases hm : memOk s with
  | false => rw [cond_false]; rfl
  | true =>
  rw [cond_true, bne_self_eq_false, cond_false]
  by_cases h1 : (s.size : Int) > 51200
  · rw [decide_eq_true h1]; rfl
  rw [decide_eq_false h1, cond_false]
  by_cases h2 : root < 0
  · rw [decide_eq_true h2]; rfl
  rw [decide_eq_false h2, cond_false]
  by_cases h3 : root > 255
  · rw [decide_eq_true h3]; rfl
  rw [decide_eq_false h3, oK_some_eq, cond_false]
  have hm2 := hm
  unfold memOk at hm2
  simp only [Bool.and_eq_true, decide_eq_true_eq] at hm2
  obtain ⟨hm3, hm4, hm5⟩ := hm2
  have hfr : s.size % 256 = 0 := by
    have := eq_of_beq hm5
    rw [tmod_nn (by omega)] at this
    omega
  obtain ⟨n, hn⟩ : ∃ n, s.size = 256 * n := ⟨s.size / 256, by omega⟩
  have hn200 : n ≤ 200 := by omega
  have hn1 : 1 ≤ n := by omega
  have hg : Good s := ⟨hm, hs, hfr⟩
  cases h4 : twoBad s 0 root va acc with
  | true =>
    rw [spec_Walk_bad N h4]
    refine two_rest N hn hn200 hn1 hN _ _ _ _ _ _ _ (fun H hH => ?_) k
    have hHg := host_memOk hH hn200
    have h5 : twoBad H 0 root va acc = true := by
      unfold twoBad at h4 ⊢
      rw [hHg.ok]
      rw [hm] at h4
      exact h4
    obtain ⟨c, g, hp, st, m, hI, hS⟩ := WalkTwo_both (R := R) N (s := H) (host := 0) (root := root) (va := va) (acc := acc) (u := u)
    exact ⟨0, 0, 0, 0, ⟨[].toArray⟩, fun k => (hI k).trans ((hS k).symm.trans (two_none N h5 k)), two_none N h5, fun _ => .inr (.inl rfl), fun hx => absurd rfl hx⟩
  | false =>
    obtain ⟨_, ho, ro, v, _, rfl, rfl, _, q2, q3, ha⟩ := twoBad_facts h4
    rw [spec_Walk_eq N (R := R) (user := u) hg.ok hg.le hg.fr q2 q3 ha]
    exact two_rest N hn hn200 hn1 hN _ _ _ _ _ _ _ (fun H hH => two_ok N hH hn200 q2 q3 ha hg) k

end
end Go.Sa
