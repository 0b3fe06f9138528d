import Derived.Test.YtnopbegjbbbdhaaEngR
set_option linter.all false
namespace Go.Eng
open Go Go.RowKit

section
variable {E : Env} {R : Type}

theorem hasEdge_iff {o : Oper} {i : Nat} (h : hasEdge o i = true) : ∃ e ∈ o.after, e.on = i ∧ Region.binds .any e = true := by
  unfold hasEdge at h
  obtain ⟨e, he, hb⟩ := List.any_eq_true.1 h
  simp only [Bool.and_eq_true] at hb
  exact ⟨e, by simpa using he, Nat.eq_of_beq_eq_true hb.1, hb.2⟩

theorem clashOk_spec {ops : Array Oper} {x : Oper} {i : Nat} : ∀ {l : List Oper}, clashOk ops x i l = true → ∀ k y, nth l k = some y → clash ops x y = true → hasEdge y i = true
  | [], _, k, y, hy, _ => by cases hy
  | z :: l, h, k, y, hy, hc => by
    simp only [clashOk, Bool.and_eq_true, Bool.or_eq_true, Bool.not_eq_true'] at h
    cases k with
    | zero =>
      cases hy
      rcases h.1 with h1 | h1
      · rw [hc] at h1; cases h1
      · exact h1
    | succ k => exact clashOk_spec h.2 k y hy hc

theorem clashAll_spec {ops : Array Oper} : ∀ {l : List Oper} {b : Nat}, clashAll ops b l = true → ∀ i j x y, i < j → nth l i = some x → nth l j = some y → clash ops x y = true → hasEdge y (b + i) = true
  | [], _, _, i, _, _, _, _, hx, _, _ => by cases hx
  | z :: l, b, h, i, j, x, y, hij, hx, hy, hc => by
    simp only [clashAll, Bool.and_eq_true] at h
    cases j with
    | zero => omega
    | succ j =>
      cases i with
      | zero => cases hx; exact clashOk_spec h.1 j y hy hc
      | succ i =>
        have := clashAll_spec h.2 i j x y (by omega) hx hy hc
        rwa [show b + 1 + i = b + (i + 1) from by omega] at this

theorem backEdges_spec : ∀ {l : List Oper} {b : Nat}, backEdges b l = true → ∀ i o, nth l i = some o → ∀ e ∈ o.after, Region.binds .any e = true → e.on < b + i
  | [], _, _, i, o, ho, _, _, _ => by cases ho
  | z :: l, b, h, i, o, ho, e, he, hb => by
    simp only [backEdges, Bool.and_eq_true, List.all_eq_true] at h
    cases i with
    | zero =>
      cases ho
      have := h.1 e (by simpa using he)
      rw [hb] at this
      simp only [Bool.not_true, Bool.false_or] at this
      exact Nat.le_of_ble_eq_true this
    | succ i =>
      have := backEdges_spec h.2 i o ho e he hb
      omega

theorem hasVia_spec {o : Oper} {n : Nat} : ∀ {i : Nat} {l : List Oper}, hasVia o n i l = true → ∃ m y, hasEdge o (i + m) = true ∧ nth l m = some y ∧ hasEdge y n = true
  | _, [], h => by cases h
  | i, y :: l, h => by
    simp only [hasVia, Bool.or_eq_true, Bool.and_eq_true] at h
    rcases h with h | h
    · exact ⟨0, y, h.1, rfl, h.2⟩
    · obtain ⟨m, z, h1, h2, h3⟩ := hasVia_spec h
      exact ⟨m + 1, z, by rwa [show i + (m + 1) = i + 1 + m by omega], h2, h3⟩

theorem hasAll_spec {L : List Oper} {o : Oper} : ∀ {n : Nat}, hasAll L o n = true → ∀ i, i < n → hasEdge o i = true ∨ ∃ m y, hasEdge o m = true ∧ nth L m = some y ∧ hasEdge y i = true
  | 0, _, _, hi => by omega
  | n + 1, h, i, hi => by
    simp only [hasAll, Bool.and_eq_true, Bool.or_eq_true] at h
    by_cases hin : i = n
    · subst hin
      rcases h.1 with h1 | h1
      · exact .inl h1
      · obtain ⟨m, y, h2, h3, h4⟩ := hasVia_spec h1
        exact .inr ⟨m, y, by rwa [Nat.zero_add] at h2, h3, h4⟩
    · exact hasAll_spec h.2 i (by omega)

theorem drawParts_spec {ops : Array Oper} (h : drawOk ops = true) : ∃ l lo, drawParts ops = (l, lo) ∧ ((lo = none ∧ ops.toList = l) ∨ ∃ o, lo = some o ∧ ops.toList = l ++ [o] ∧ hasAll ops.toList o l.length = true) := by
  unfold drawOk at h
  simp only [Bool.and_eq_true] at h
  have hsz := Nat.le_of_ble_eq_true h.2
  unfold drawParts at hsz ⊢
  cases hr : ops.toList.reverse with
  | nil =>
    have : ops.toList = [] := by simpa using hr
    exact ⟨[], none, rfl, .inl ⟨rfl, this⟩⟩
  | cons o l =>
    have hl : ops.toList = l.reverse ++ [o] := by
      have := congrArg List.reverse hr
      simpa using this
    rw [hr] at hsz
    simp only [] at hsz ⊢
    cases hc : calmOp o.op with
    | true => exact ⟨_, _, rfl, .inl ⟨rfl, rfl⟩⟩
    | false =>
      rw [hc] at hsz
      simp only [cond_false] at hsz ⊢
      cases hh : hasAll ops.toList o l.length with
      | true => exact ⟨_, _, rfl, .inr ⟨o, rfl, hl, by simpa using hh⟩⟩
      | false =>
        rw [hh] at hsz
        have h1 : ops.toList.length = l.length + 1 := by rw [hl]; simp
        have h2 : ops.size ≤ 0 := hsz
        rw [Array.length_toList] at h1
        omega

/-- How many are still to come. -/
def undone (m : Nat) (D : Nat → Bool) : Nat := ((List.range m).filter fun i => !D i).length

theorem filter_lt {p q : Nat → Bool} : ∀ {l : List Nat}, (∀ x ∈ l, q x = true → p x = true) → (∃ i ∈ l, p i = true ∧ q i = false) → (l.filter q).length < (l.filter p).length
  | [], _, h => by obtain ⟨i, hi, _⟩ := h; cases hi
  | a :: l, h, hex => by
    have hle : (l.filter q).length ≤ (l.filter p).length := by
      clear hex
      induction l with
      | nil => exact Nat.le_refl _
      | cons b l ih =>
        have ih := ih (fun x hx => h x (by rcases List.mem_cons.1 hx with rfl | hx <;> simp [*]))
        have hb := h b (by simp)
        simp only [List.filter_cons]
        cases hq : q b with
        | true => rw [hb hq]; simp; omega
        | false => cases p b <;> simp <;> omega
    obtain ⟨i, hi, hpi, hqi⟩ := hex
    simp only [List.filter_cons]
    rcases List.mem_cons.1 hi with rfl | hi
    · rw [hpi, hqi]; simp; omega
    · have := filter_lt (p := p) (q := q) (l := l) (fun x hx => h x (by simp [hx])) ⟨i, hi, hpi, hqi⟩
      have ha := h a (by simp)
      cases hq : q a with
      | true => rw [ha hq]; simp; omega
      | false => cases p a <;> simp <;> omega

variable {ops : Array Oper} {n : Nat} {Fs : Nat → Fr} {Hs : Nat → Hp E} {ps : Nat → AV} {φs : List PE} {w0 : World} {df : List Deferred} {tm0 : Array Value}

abbrev LD (listed : Array Bool) (j : Nat) : Bool := listed.getD j false

theorem LD_set {listed : Array Bool} {k : Nat} (hk : k < listed.size) : LD (listed.setIfInBounds k true) = fun j => LD listed j || Nat.beq j k := by
  funext j
  simp only [LD, Array.getD_eq_getD_getElem?, Array.getElem?_setIfInBounds]
  by_cases h : k = j
  · subst h; simp [hk, Nat.beq_refl]
  · rw [if_neg h]
    have : Nat.beq j k = false := by
      cases hb : Nat.beq j k with
      | false => rfl
      | true => exact absurd (Nat.eq_of_beq_eq_true hb).symm h
    rw [this, Bool.or_false]

theorem getD_lt {listed : Array Bool} {j : Nat} (h : j < listed.size) (b c : Bool) : listed.getD j b = listed.getD j c := by
  simp [Array.getD_eq_getD_getElem?, h]

theorem reg_any (S : Steps E ops n Fs Hs ps) (hcl : clashAll ops 0 ops.toList = true) (hbk : backEdges 0 ops.toList = true) (hn : n ≤ ops.size) {Q : Exit → Act → World → Prop}
    (hend : ∀ listed φ a w, listed.size = ops.size → Reg E ops n Fs Hs ps φs w0 df tm0 (LD listed) φ a w → (∀ j, j < n → LD listed j = true) → (∀ j, n ≤ j → LD listed j = false) → ∀ fuel, ops.size - n ≤ fuel → wpAny E.P .any ops Q fuel listed a w)
    (hlast : ∀ o, ∀ k, n ≤ k → nth ops.toList k = some o → ∀ j, j < n → hasEdge o j = true ∨ ∃ m y, hasEdge o m = true ∧ nth ops.toList m = some y ∧ hasEdge y j = true) :
    ∀ (fuel : Nat) (listed : Array Bool) (φ : List PE) (a : Act) (w : World), listed.size = ops.size → undone n (LD listed) + (ops.size - n) ≤ fuel → (∀ j, n ≤ j → LD listed j = false) →
      (∀ k o, nth ops.toList k = some o → LD listed k = true → ∀ e ∈ o.after, Region.binds .any e = true → LD listed e.on = true) →
      Reg E ops n Fs Hs ps φs w0 df tm0 (LD listed) φ a w → wpAny E.P .any ops Q fuel listed a w := by
  intro fuel
  induction fuel with
  | zero =>
    intro listed φ a w hsz hfu hhi hclo I
    refine hend listed φ a w hsz I (fun j hj => ?_) hhi 0 (by omega)
    have h0 : undone n (LD listed) = 0 := by omega
    unfold undone at h0
    have h1 := List.eq_nil_of_length_eq_zero h0
    rw [List.filter_eq_nil_iff] at h1
    have := h1 j (List.mem_range.2 hj)
    simpa using this
  | succ fuel ih =>
    intro listed φ a w hsz hfu hhi hclo I
    by_cases hall : ∀ j, j < n → LD listed j = true
    · exact hend listed φ a w hsz I hall hhi _ (by omega)
    · -- some is to come
      have hex : ∃ j, j < n ∧ LD listed j = false := by
        by_cases h : ∃ j, j < n ∧ LD listed j = false
        · exact h
        · refine absurd (fun j hj => ?_) hall
          cases hd : LD listed j with
          | true => rfl
          | false => exact absurd ⟨j, hj, hd⟩ h
      have hleast : ∀ m, (∃ j, j < m ∧ j < n ∧ LD listed j = false) → ∃ j, j < n ∧ LD listed j = false ∧ ∀ i, i < j → LD listed i = true := by
        intro m
        induction m with
        | zero => rintro ⟨j, h, _⟩; omega
        | succ m ihm =>
          rintro ⟨j, hjm, hjn, hj⟩
          by_cases h : ∃ j, j < m ∧ j < n ∧ LD listed j = false
          · exact ihm h
          · refine ⟨j, hjn, hj, fun i hi => ?_⟩
            cases hd : LD listed i with
            | true => rfl
            | false => exact absurd ⟨i, by omega, by omega, hd⟩ h
      obtain ⟨j0, hj0, hu0⟩ := hex
      obtain ⟨j, hjn, hju, hjl⟩ := hleast (j0 + 1) ⟨j0, by omega, hj0, hu0⟩
      have hrj : j ∈ Region.ready .any ops listed := by
        obtain ⟨o, ho, _⟩ := S.step j hjn
        refine mem_ready.2 ⟨?_, o, ops_at ho, fun e he hb => ?_⟩
        · rw [getD_lt (by omega) true false]; exact hju
        · have := backEdges_spec hbk j o ho e he hb
          exact hjl _ (by omega)
      refine ⟨fun h => (by rw [h] at hrj; cases hrj), fun k hk => ?_⟩
      obtain ⟨hku, o, ho, hdeps⟩ := mem_ready.1 hk
      have hks : k < ops.size := (Array.getElem?_eq_some_iff.1 ho).1
      have ho' : nth ops.toList k = some o := by rw [nth_eq]; simpa using ho
      have hku' : LD listed k = false := by rw [getD_lt (by omega) true false] at hku; exact hku
      rcases Nat.lt_or_ge k n with hkn | hkn
      · refine I.step S hkn hku' ho' ⟨fun t ht j hj hjd => ?_, fun d hd j hj hjd => ?_⟩ fun φ' a' w' I' => ?_
        · obtain ⟨x, hx⟩ := nth_some (l := ops.toList) (n := j) (by simp; omega)
          rw [dstOf_of hx] at hjd
          rcases Nat.lt_trichotomy j k with h1 | h1 | h1
          · have hc : clash ops x o = true := by
              unfold clash
              rw [hjd]
              have : (looks ops o).any (Nat.beq t) = true := List.any_eq_true.2 ⟨t, ht, Nat.beq_refl t⟩
              simp [this]
            obtain ⟨e, he, hon, hb⟩ := hasEdge_iff (clashAll_spec hcl j k x o h1 hx ho' hc)
            have := hdeps e he hb
            rw [hon, Nat.zero_add] at this
            have h7 : LD listed j = true := this
            rw [h7]; simp [h1]
          · subst h1; rw [hku']; simp
          · have hc : clash ops o x = true := by
              unfold clash
              rw [hjd]
              have : (looks ops o).any (Nat.beq t) = true := List.any_eq_true.2 ⟨t, ht, Nat.beq_refl t⟩
              simp [this]
            obtain ⟨e, he, hon, hb⟩ := hasEdge_iff (clashAll_spec hcl k j o x h1 ho' hx hc)
            have hnj : LD listed j = false := by
              cases hd : LD listed j with
              | false => rfl
              | true =>
                have := hclo j x hx hd e he hb
                rw [hon, Nat.zero_add, hku'] at this; cases this
            rw [hnj]; simp; omega
        · obtain ⟨x, hx⟩ := nth_some (l := ops.toList) (n := j) (by simp; omega)
          rw [dstOf_of hx] at hjd
          rcases Nat.lt_trichotomy j k with h1 | h1 | h1
          · have hc : clash ops x o = true := by
              unfold clash
              rw [hjd, hd]
              simp [Nat.beq_refl]
            obtain ⟨e, he, hon, hb⟩ := hasEdge_iff (clashAll_spec hcl j k x o h1 hx ho' hc)
            have := hdeps e he hb
            rw [hon, Nat.zero_add] at this
            have h7 : LD listed j = true := this
            rw [h7]; simp [h1]
          · subst h1; rw [hku']; simp
          · have hc : clash ops o x = true := by
              unfold clash
              rw [hjd, hd]
              simp [Nat.beq_refl]
            obtain ⟨e, he, hon, hb⟩ := hasEdge_iff (clashAll_spec hcl k j o x h1 ho' hx hc)
            have hnj : LD listed j = false := by
              cases hd : LD listed j with
              | false => rfl
              | true =>
                have := hclo j x hx hd e he hb
                rw [hon, Nat.zero_add, hku'] at this; cases this
            rw [hnj]; simp; omega
        · have hset := LD_set (listed := listed) (k := k) (by omega)
          refine ih (listed.setIfInBounds k true) φ' a' w' (by simpa using hsz) ?_ (fun i hi => ?_) (fun i oi hoi hdi e he hb => ?_) (by rw [hset]; exact I')
          · have : undone n (LD (listed.setIfInBounds k true)) < undone n (LD listed) := by
              rw [hset]
              refine filter_lt (fun x _ hx => ?_) ⟨k, List.mem_range.2 hkn, ?_, ?_⟩
              · simp only [Bool.not_eq_true', Bool.or_eq_false_iff] at hx ⊢
                exact hx.1
              · rw [hku']; rfl
              · simp [Nat.beq_refl]
            omega
          · rw [hset]
            have : Nat.beq i k = false := by
              cases hb : Nat.beq i k with
              | false => rfl
              | true => have := Nat.eq_of_beq_eq_true hb; omega
            simp only [this, Bool.or_false]
            exact hhi i hi
          · rw [hset] at hdi ⊢
            simp only [Bool.or_eq_true] at hdi ⊢
            rcases hdi with hdi | hdi
            · exact .inl (hclo i oi hoi hdi e he hb)
            · have := Nat.eq_of_beq_eq_true hdi
              subst this
              rw [ho'] at hoi; cases hoi
              exact .inl (hdeps e he hb)
      · have hdone : ∀ m, hasEdge o m = true → LD listed m = true := fun m hm => by
          obtain ⟨e, he, hon, hb⟩ := hasEdge_iff hm
          have := hdeps e he hb
          rw [hon] at this
          exact this
        have h2 : LD listed j = true := by
          rcases hlast o k hkn ho' j hjn with h1 | ⟨m, y, h1, hy, h3⟩
          · exact hdone j h1
          · obtain ⟨e, he, hon, hb⟩ := hasEdge_iff h3
            have := hclo m y hy (hdone m h1) e he hb
            rw [hon] at this
            exact this
        rw [hju] at h2; cases h2

def pendPE : Option (HE E) → PE
  | some _ => .abs
  | none => .dead

theorem Reg.init {φ0 : List PE} {H0 : Hp E} {wb : World} {φ : List PE} {a : Act} {w : World} (S : Steps E ops n Fs Hs ps) (hI : Inv φ0 H0 wb φ (Hs 0) w) (hF : RF φ (Fs 0) a.tmps) :
    Reg E ops n Fs Hs ps φ w a.defers a.tmps (fun _ => false) (φ ++ ((Hs n).drop (Hs 0).length).map pendPE) a w := by
  have h0n := S.le (k := 0) (m := n) (Nat.zero_le _) (Nat.le_refl _)
  have hl := hI.rh.len
  have hold : ∀ i, i < (Hs 0).length → nth (φ ++ ((Hs n).drop (Hs 0).length).map pendPE) i = nth φ i := fun i hi => by rw [nth_append, if_pos (by omega)]
  have hnew : ∀ i x, (Hs 0).length ≤ i → nth (Hs n) i = some x → nth (φ ++ ((Hs n).drop (Hs 0).length).map pendPE) i = some (pendPE x) := fun i x hi hx => by
    rw [nth_append, if_neg (by omega), nth_map, nth_drop, hl, show (Hs 0).length + (i - (Hs 0).length) = i from by omega, hx]
    rfl
  have htk0 : (φ ++ ((Hs n).drop (Hs 0).length).map pendPE).take (Hs 0).length = φ := by
    rw [← hl, List.take_left']
    rfl
  have hpre : ∀ k, k ≤ n → Ref φ ((φ ++ ((Hs n).drop (Hs 0).length).map pendPE).take (Hs k).length) := fun k hk i pe hp => by
    right
    have hi := nth_lt hp
    have := S.le (k := 0) (m := k) (Nat.zero_le _) hk
    rw [nth_take, if_pos (by omega)]
    exact nth_append_left hp
  have hlen : (φ ++ ((Hs n).drop (Hs 0).length).map pendPE).length = (Hs n).length := by
    rw [List.length_append, List.length_map, List.length_drop]; omega
  refine ⟨hlen, fun k hk => ?_, hF.1.symm, fun t k av hk _ ht => ?_, htk0, fun k hk _ i h1 h2 => ?_, fun i L hi hL => ?_, fun k _ h => (by cases h), Calm.refl _, Nat.le_refl _, fun _ _ => rfl, rfl, fun _ _ => rfl⟩
  · have h0k := S.le (k := 0) (m := k) (Nat.zero_le _) hk
    have hkn := S.le (k := k) (m := n) hk (Nat.le_refl _)
    refine ⟨by rw [List.length_take, hlen]; omega, fun i pe x hp hx => ?_, fun i j L L' he hne hi hj hh hro => ?_⟩
    · have hik := nth_lt hx
      rw [nth_take, if_pos hik] at hp
      rcases Nat.lt_or_ge i (Hs 0).length with h1 | h1
      · rw [hold i h1] at hp
        rw [S.nth (k := 0) (Nat.zero_le _) hk h1] at hx
        exact (hI.rh.ent i pe x hp hx).ref (hpre k hk) (fun _ _ => rfl)
      · rw [← S.nth hk (Nat.le_refl _) hik] at hx
        rw [hnew i x h1 hx] at hp
        cases hp
        cases x <;> trivial
    · have hik := nth_lt hh
      rw [nth_take, if_pos hik] at hi
      rw [nth_take] at hj
      split at hj
      · rename_i hjk
        have hin : ∀ i L, i < (Hs k).length → nth (φ ++ ((Hs n).drop (Hs 0).length).map pendPE) i = some (.at L) → i < (Hs 0).length := fun i L hik hL => by
          rcases Nat.lt_or_ge i (Hs 0).length with h1 | h1
          · exact h1
          · obtain ⟨x, hx⟩ := nth_some (l := Hs n) (n := i) (by omega)
            rw [hnew i x h1 hx] at hL
            cases x <;> cases hL
        have h1 := hin i L hik hi
        have h2 := hin j L' hjk hj
        rw [hold i h1] at hi
        rw [hold j h2] at hj
        rw [S.nth (k := 0) (Nat.zero_le _) hk h1] at hh
        exact hI.rh.inj i j L L' he hne hi hj hh hro
      · cases hj
  · have hFD : nth (FD ops (Fs 0) ps (fun _ => false) n) t = nth (Fs 0) t := by
      clear ht
      induction n with
      | zero => rfl
      | succ n ih => 
        show nth (FD ops (Fs 0) ps (fun _ => false) n) t = _
        have : ∀ m, nth (FD ops (Fs 0) ps (fun _ => false) m) t = nth (Fs 0) t := fun m => by
          induction m with
          | zero => rfl
          | succ m ih => exact ih
        exact this n
    rw [hFD] at ht
    obtain ⟨v, h1, h2⟩ := hF.2 t av ht
    exact ⟨v, h1, h2.ref (hpre k hk)⟩
  · have h0k := S.le (k := 0) (m := k) (Nat.zero_le _) (by omega)
    have hkn := S.le (k := k + 1) (m := n) hk (Nat.le_refl _)
    obtain ⟨x, hx⟩ := nth_some (l := Hs n) (n := i) (by omega)
    rw [hnew i x (by omega) hx]
    cases x
    · exact .inr rfl
    · exact .inl rfl
  · have hi2 := nth_lt hL
    rw [hlen] at hi2
    obtain ⟨x, hx⟩ := nth_some (l := Hs n) (n := i) hi2
    rw [hnew i x hi hx] at hL
    cases x <;> cases hL

theorem draw_ok (ok : EnvOk E) : DrawOk E := by
  intro R m O hO id ops F H K r h
  unfold evalDraw at h
  obtain ⟨hd, h⟩ := cond_none_right h
  obtain ⟨l, lo, hp, hparts⟩ := drawParts_spec hd
  have hd2 := hd
  unfold drawOk at hd2
  simp only [Bool.and_eq_true] at hd2
  obtain ⟨⟨⟨hcl, hbk⟩, _⟩, _⟩ := hd2
  rw [hp] at h
  obtain ⟨Fs, Hs, ps, rfl, rfl, h, hall⟩ := evalCalm_ok ok hO l F H _ r h
  have hsz : ops.size = ops.toList.length := by simp
  have hpre : ∀ k o, nth l k = some o → nth ops.toList k = some o := fun k o hk => by
    rcases hparts with ⟨_, he⟩ | ⟨o', _, he, _⟩
    · rw [he]; exact hk
    · rw [he]; exact nth_append_left hk
  have S : Steps E ops l.length Fs Hs ps := ⟨fun k hk => by
    obtain ⟨o, ho⟩ := nth_some hk
    exact ⟨o, hpre k o ho, hall k o ho⟩⟩
  have hle : l.length ≤ ops.size := by
    rcases hparts with ⟨_, he⟩ | ⟨o', _, he, _⟩
    · rw [hsz, he]; exact Nat.le_refl _
    · rw [hsz, he]; simp
  have start : ∀ (φ : List PE) (φ0 : List PE) (H0 : Hp E) (w0 : World) (a : Act) (w : World) (Q : Exit → Act → World → Prop), Inv φ0 H0 w0 φ (Hs 0) w → RF φ (Fs 0) a.tmps →
      (∀ listed φ' a' w', listed.size = ops.size → Reg E ops l.length Fs Hs ps φ { w with drawn := w.drawn + 1 } a.defers a.tmps (LD listed) φ' a' w' → (∀ j, j < l.length → LD listed j = true) → (∀ j, l.length ≤ j → LD listed j = false) → ∀ fuel, ops.size - l.length ≤ fuel → wpAny E.P .any ops Q fuel listed a' w') →
      (Code.region id ops true).wp E.P Q a w := fun φ φ0 H0 w0 a w Q hI hF hend => by
    refine wp_region_any ok.mixed ?_
    have hI' := hI.drew (w.drawn + 1)
    have hLD : LD (Array.replicate ops.size false) = fun _ => false := by
      funext j
      simp only [LD, Array.getD_eq_getD_getElem?, Array.getElem?_replicate]
      split <;> rfl
    refine reg_any (φs := φ) (w0 := { w with drawn := w.drawn + 1 }) (df := a.defers) (tm0 := a.tmps) S hcl hbk hle hend (fun o k hk ho j hj => ?_) ops.size _ _ a _ (by simp) ?_ (fun j _ => by rw [hLD]) (fun k o _ h => by rw [hLD] at h; cases h) (by rw [hLD]; exact Reg.init S hI' hF)
    · rcases hparts with ⟨_, he⟩ | ⟨o', _, he, hha⟩
      · rw [he] at ho; have := nth_lt ho; omega
      · rw [he] at ho
        rcases nth_push_cases ho with ⟨h1, _⟩ | ⟨_, h1⟩
        · omega
        · subst h1; exact hasAll_spec hha j hj
    · have : undone l.length (LD (Array.replicate ops.size false)) ≤ l.length := by
        unfold undone
        exact Nat.le_trans (List.length_filter_le _ _) (by simp)
      omega
  rcases hparts with ⟨rfl, he⟩ | ⟨o, rfl, he, hha⟩
  · refine ⟨Fs l.length, Hs l.length, h, fun φ0 H0 w0 φ a w Q hl hm hI hF hq => start φ φ0 H0 w0 a w Q hI hF fun listed φ' a' w' hls I hdn _ fuel _ => ?_⟩
    obtain ⟨hI2, hF2, _⟩ := I.done S hdn (hI.drew (w.drawn + 1))
    refine wpAny_done ?_ (hq φ' a' w' hI2 hF2 I.defers I.keep) fuel
    rw [List.eq_nil_iff_forall_not_mem]
    intro j hj
    obtain ⟨h1, o, ho, _⟩ := mem_ready.1 hj
    have hjs : j < ops.size := (Array.getElem?_eq_some_iff.1 ho).1
    have := hdn j (by rw [← he, ← hsz]; exact hjs)
    rw [getD_lt (by omega) true false] at h1
    have h2 : LD listed j = false := h1
    rw [this] at h2; cases h2
  · obtain ⟨F', H', hK, hok⟩ := evalOps_ok ok hO [o] _ _ _ r h
    refine ⟨F', H', hK, fun φ0 H0 w0 φ a w Q hl hm hI hF hq => start φ φ0 H0 w0 a w Q hI hF fun listed φ' a' w' hls I hdn hhi fuel hfu => ?_⟩
    obtain ⟨hI2, hF2, _⟩ := I.done S hdn (hI.drew (w.drawn + 1))
    have hsz1 : ops.size = l.length + 1 := by rw [hsz, he]; simp
    obtain ⟨f, rfl⟩ : ∃ f, fuel = f + 1 := ⟨fuel - 1, by omega⟩
    have hol : nth ops.toList l.length = some o := by rw [he]; exact nth_last _ _
    have hrd : ∀ j, j ∈ Region.ready .any ops listed ↔ j = l.length := fun j => by
      refine ⟨fun hj => ?_, fun hj => ?_⟩
      · obtain ⟨h1, o', ho, _⟩ := mem_ready.1 hj
        have hjs : j < ops.size := (Array.getElem?_eq_some_iff.1 ho).1
        rcases Nat.lt_or_ge j l.length with h2 | h2
        · have := hdn j h2
          rw [getD_lt (by omega) true false] at h1
          have h2 : LD listed j = false := h1
          rw [this] at h2; cases h2
        · omega
      · subst hj
        refine mem_ready.2 ⟨?_, o, ops_at hol, fun e he2 hb => ?_⟩
        · rw [getD_lt (by omega) true false]; exact hhi _ (Nat.le_refl _)
        · have := backEdges_spec hbk l.length o hol e he2 hb
          exact hdn _ (by omega)
    refine ⟨fun h0 => ?_, fun j hj => ?_⟩
    · have := (hrd l.length).2 rfl
      rw [h0] at this; cases this
    · have hj := (hrd j).1 hj
      subst hj
      have hlist := hok φ0 H0 w0 φ' a' w' Q hl hI2 hF2 (fun φ2 a2 w2 hI3 hF3 hd3 hk3 => hq φ2 a2 w2 hI3 hF3 (hd3.trans I.defers) fun t ht => (hk3 t fun o' ho' => ht o' (by rw [List.mem_singleton.1 ho']; exact mem_of_nth hol)).trans (I.keep t ht))
      have hrest : ∀ a2 w2, wpList E.P ops Q [] a2 w2 → wpAny E.P .any ops Q f (listed.setIfInBounds l.length true) a2 w2 := fun a2 w2 h2 => by
        refine wpAny_done ?_ h2 f
        rw [List.eq_nil_iff_forall_not_mem]
        intro j hj
        obtain ⟨h1, o', ho, _⟩ := mem_ready.1 hj
        have hjs : j < ops.size := (Array.getElem?_eq_some_iff.1 ho).1
        rw [getD_lt (by simp; omega) true false] at h1
        have h3 : LD (listed.setIfInBounds l.length true) j = false := h1
        rw [LD_set (by omega)] at h3
        simp only [Bool.or_eq_false_iff] at h3
        rcases Nat.lt_or_ge j l.length with h4 | h4
        · have := hdn j h4
          rw [this] at h3; cases h3.1
        · have : j = l.length := by omega
          subst this
          have := h3.2
          rw [Nat.beq_refl] at this; cases this
      refine wpOp_mono hrest ?_
      unfold wpList at hlist
      unfold wpOp
      rw [ops_at hol]
      exact hlist
end
end Go.Eng
