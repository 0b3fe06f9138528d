import Derived.Test.YtjimjkhpahegjaaEngR
set_option linter.all false
namespace Go.Eng
open Go Go.RowKit

section
variable {E : Env} {R : Type}

theorem hasEdge_iff {o : Oper} {i : Nat} (h : hasEdge o i = true) : ∃ e ∈ o.after, e.on = i ∧ Region.binds .any e = true := by
  unfold hasEdge at h
  obtain ⟨e, he, hb⟩ := List.any_eq_true.1 h
  simp only [Bool.and_eq_true] at hb
  exact ⟨e, by simpa using he, Nat.eq_of_beq_eq_true hb.1, hb.2⟩

theorem clashOk_spec {ops : Array Oper} {x : Oper} {i : Nat} : ∀ {l : List Oper}, clashOk ops x i l = true → ∀ k y, nth l k = some y → clash ops x y = true → hasEdge y i = true
  | [], _, k, y, hy, _ => by cases hy
  | z :: l, h, k, y, hy, hc => by
    simp only [clashOk, Bool.and_eq_true, Bool.or_eq_true, Bool.not_eq_true'] at h
    cases k with
    | zero =>
      cases hy
      rcases h.1 with h1 | h1
      · rw [hc] at h1; cases h1
      · exact h1
    | succ k => exact clashOk_spec h.2 k y hy hc

theorem clashAll_spec {ops : Array Oper} : ∀ {l : List Oper} {b : Nat}, clashAll ops b l = true → ∀ i j x y, i < j → nth l i = some x → nth l j = some y → clash ops x y = true → hasEdge y (b + i) = true
  | [], _, _, i, _, _, _, _, hx, _, _ => by cases hx
  | z :: l, b, h, i, j, x, y, hij, hx, hy, hc => by
    simp only [clashAll, Bool.and_eq_true] at h
    cases j with
    | zero => omega
    | succ j =>
      cases i with
      | zero => cases hx; exact clashOk_spec h.1 j y hy hc
      | succ i =>
        have := clashAll_spec h.2 i j x y (by omega) hx hy hc
        rwa [show b + 1 + i = b + (i + 1) from by omega] at this

theorem backEdges_spec : ∀ {l : List Oper} {b : Nat}, backEdges b l = true → ∀ i o, nth l i = some o → ∀ e ∈ o.after, Region.binds .any e = true → e.on < b + i
  | [], _, _, i, o, ho, _, _, _ => by cases ho
  | z :: l, b, h, i, o, ho, e, he, hb => by
    simp only [backEdges, Bool.and_eq_true, List.all_eq_true] at h
    cases i with
    | zero =>
      cases ho
      have := h.1 e (by simpa using he)
      rw [hb] at this
      simp only [Bool.not_true, Bool.false_or] at this
      exact Nat.le_of_ble_eq_true this
    | succ i =>
      have := backEdges_spec h.2 i o ho e he hb
      omega

theorem hasVia_spec {o : Oper} {n : Nat} : ∀ {i : Nat} {l : List Oper}, hasVia o n i l = true → ∃ m y, hasEdge o (i + m) = true ∧ nth l m = some y ∧ hasEdge y n = true
  | _, [], h => by cases h
  | i, y :: l, h => by
    simp only [hasVia, Bool.or_eq_true, Bool.and_eq_true] at h
    rcases h with h | h
    · exact ⟨0, y, h.1, rfl, h.2⟩
    · obtain ⟨m, z, h1, h2, h3⟩ := hasVia_spec h
      exact ⟨m + 1, z, by rwa [show i + (m + 1) = i + 1 + m by omega], h2, h3⟩

theorem hasAll_spec {L : List Oper} {o : Oper} : ∀ {n : Nat}, hasAll L o n = true → ∀ i, i < n → hasEdge o i = true ∨ ∃ m y, hasEdge o m = true ∧ nth L m = some y ∧ hasEdge y i = true
  | 0, _, _, hi => by omega
  | n + 1, h, i, hi => by
    simp only [hasAll, Bool.and_eq_true, Bool.or_eq_true] at h
    by_cases hin : i = n
    · subst hin
      rcases h.1 with h1 | h1
      · exact .inl h1
      · obtain ⟨m, y, h2, h3, h4⟩ := hasVia_spec h1
        exact .inr ⟨m, y, by rwa [Nat.zero_add] at h2, h3, h4⟩
    · exact hasAll_spec h.2 i (by omega)

theorem calmHead_append : ∀ (l : List Oper), (calmHead l).1 ++ (calmHead l).2 = l
  | [] => rfl
  | o :: l => by
    simp only [calmHead]
    cases calmOp o.op with
    | true => simp only [cond_true, List.cons_append, calmHead_append l]
    | false => rfl

theorem tailAll_spec {L : List Oper} : ∀ {i : Nat} {t : List Oper}, tailAll L i t = true → ∀ k o, nth t k = some o → hasAll L o (i + k) = true
  | _, [], _, _, _, h => by cases h
  | i, x :: t, h, k, o, hk => by
    simp only [tailAll, Bool.and_eq_true] at h
    cases k with
    | zero => cases hk; exact h.1
    | succ k => rw [show i + (k + 1) = i + 1 + k by omega]; exact tailAll_spec h.2 k o hk

/-- How many are still to come. -/
def undone (m : Nat) (D : Nat → Bool) : Nat := ((List.range m).filter fun i => !D i).length

theorem filter_lt {p q : Nat → Bool} : ∀ {l : List Nat}, (∀ x ∈ l, q x = true → p x = true) → (∃ i ∈ l, p i = true ∧ q i = false) → (l.filter q).length < (l.filter p).length
  | [], _, h => by obtain ⟨i, hi, _⟩ := h; cases hi
  | a :: l, h, hex => by
    have hle : (l.filter q).length ≤ (l.filter p).length := by
      clear hex
      induction l with
      | nil => exact Nat.le_refl _
      | cons b l ih =>
        have ih := ih (fun x hx => h x (by rcases List.mem_cons.1 hx with rfl | hx <;> simp [*]))
        have hb := h b (by simp)
        simp only [List.filter_cons]
        cases hq : q b with
        | true => rw [hb hq]; simp; omega
        | false => cases p b <;> simp <;> omega
    obtain ⟨i, hi, hpi, hqi⟩ := hex
    simp only [List.filter_cons]
    rcases List.mem_cons.1 hi with rfl | hi
    · rw [hpi, hqi]; simp; omega
    · have := filter_lt (p := p) (q := q) (l := l) (fun x hx => h x (by simp [hx])) ⟨i, hi, hpi, hqi⟩
      have ha := h a (by simp)
      cases hq : q a with
      | true => rw [ha hq]; simp; omega
      | false => cases p a <;> simp <;> omega

variable {ops : Array Oper} {n : Nat} {Fs : Nat → Fr} {Hs : Nat → Hp E} {ps : Nat → AV} {φs : List PE} {w0 : World} {df : List Deferred} {tm0 : Array Value}

abbrev LD (listed : Array Bool) (j : Nat) : Bool := listed.getD j false

theorem LD_set {listed : Array Bool} {k : Nat} (hk : k < listed.size) : LD (listed.setIfInBounds k true) = fun j => LD listed j || Nat.beq j k := by
  funext j
  simp only [LD, Array.getD_eq_getD_getElem?, Array.getElem?_setIfInBounds]
  by_cases h : k = j
  · subst h; simp [hk, Nat.beq_refl]
  · rw [if_neg h]
    have : Nat.beq j k = false := by
      cases hb : Nat.beq j k with
      | false => rfl
      | true => exact absurd (Nat.eq_of_beq_eq_true hb).symm h
    rw [this, Bool.or_false]

theorem getD_lt {listed : Array Bool} {j : Nat} (h : j < listed.size) (b c : Bool) : listed.getD j b = listed.getD j c := by
  simp [Array.getD_eq_getD_getElem?, h]

theorem reg_any (S : Steps E ops n Fs Hs ps) (hcl : clashAll ops 0 ops.toList = true) (hbk : backEdges 0 ops.toList = true) (hn : n ≤ ops.size) {Q : Exit → Act → World → Prop}
    (hend : ∀ listed φ a w, listed.size = ops.size → Reg E ops n Fs Hs ps φs w0 df tm0 (LD listed) φ a w → (∀ j, j < n → LD listed j = true) → (∀ j, n ≤ j → LD listed j = false) → ∀ fuel, ops.size - n ≤ fuel → wpAny E.P .any ops Q fuel listed a w)
    (hlast : ∀ o, ∀ k, n ≤ k → nth ops.toList k = some o → ∀ j, j < n → hasEdge o j = true ∨ ∃ m y, hasEdge o m = true ∧ nth ops.toList m = some y ∧ hasEdge y j = true) :
    ∀ (fuel : Nat) (listed : Array Bool) (φ : List PE) (a : Act) (w : World), listed.size = ops.size → undone n (LD listed) + (ops.size - n) ≤ fuel → (∀ j, n ≤ j → LD listed j = false) →
      (∀ k o, nth ops.toList k = some o → LD listed k = true → ∀ e ∈ o.after, Region.binds .any e = true → LD listed e.on = true) →
      Reg E ops n Fs Hs ps φs w0 df tm0 (LD listed) φ a w → wpAny E.P .any ops Q fuel listed a w := by
  intro fuel
  induction fuel with
  | zero =>
    intro listed φ a w hsz hfu hhi hclo I
    refine hend listed φ a w hsz I (fun j hj => ?_) hhi 0 (by omega)
    have h0 : undone n (LD listed) = 0 := by omega
    unfold undone at h0
    have h1 := List.eq_nil_of_length_eq_zero h0
    rw [List.filter_eq_nil_iff] at h1
    have := h1 j (List.mem_range.2 hj)
    simpa using this
  | succ fuel ih =>
    intro listed φ a w hsz hfu hhi hclo I
    by_cases hall : ∀ j, j < n → LD listed j = true
    · exact hend listed φ a w hsz I hall hhi _ (by omega)
    · -- some is to come
      have hex : ∃ j, j < n ∧ LD listed j = false := by
        by_cases h : ∃ j, j < n ∧ LD listed j = false
        · exact h
        · refine absurd (fun j hj => ?_) hall
          cases hd : LD listed j with
          | true => rfl
          | false => exact absurd ⟨j, hj, hd⟩ h
      have hleast : ∀ m, (∃ j, j < m ∧ j < n ∧ LD listed j = false) → ∃ j, j < n ∧ LD listed j = false ∧ ∀ i, i < j → LD listed i = true := by
        intro m
        induction m with
        | zero => rintro ⟨j, h, _⟩; omega
        | succ m ihm =>
          rintro ⟨j, hjm, hjn, hj⟩
          by_cases h : ∃ j, j < m ∧ j < n ∧ LD listed j = false
          · exact ihm h
          · refine ⟨j, hjn, hj, fun i hi => ?_⟩
            cases hd : LD listed i with
            | true => rfl
            | false => exact absurd ⟨i, by omega, by omega, hd⟩ h
      obtain ⟨j0, hj0, hu0⟩ := hex
      obtain ⟨j, hjn, hju, hjl⟩ := hleast (j0 + 1) ⟨j0, by omega, hj0, hu0⟩
      have hrj : j ∈ Region.ready .any ops listed := by
        obtain ⟨o, ho, _⟩ := S.step j hjn
        refine mem_ready.2 ⟨?_, o, ops_at ho, fun e he hb => ?_⟩
        · rw [getD_lt (by omega) true false]; exact hju
        · have := backEdges_spec hbk j o ho e he hb
          exact hjl _ (by omega)
      refine ⟨fun h => (by rw [h] at hrj; cases hrj), fun k hk => ?_⟩
      obtain ⟨hku, o, ho, hdeps⟩ := mem_ready.1 hk
      have hks : k < ops.size := (Array.getElem?_eq_some_iff.1 ho).1
      have ho' : nth ops.toList k = some o := by rw [nth_eq]; simpa using ho
      have hku' : LD listed k = false := by rw [getD_lt (by omega) true false] at hku; exact hku
      rcases Nat.lt_or_ge k n with hkn | hkn
      · refine I.step S hkn hku' ho' ⟨fun t ht j hj hjd => ?_, fun d hd j hj hjd => ?_⟩ fun φ' a' w' I' => ?_
        · obtain ⟨x, hx⟩ := nth_some (l := ops.toList) (n := j) (by simp; omega)
          rw [dstOf_of hx] at hjd
          rcases Nat.lt_trichotomy j k with h1 | h1 | h1
          · have hc : clash ops x o = true := by
              unfold clash
              rw [hjd]
              have : (looks ops o).any (Nat.beq t) = true := List.any_eq_true.2 ⟨t, ht, Nat.beq_refl t⟩
              simp [this]
            obtain ⟨e, he, hon, hb⟩ := hasEdge_iff (clashAll_spec hcl j k x o h1 hx ho' hc)
            have := hdeps e he hb
            rw [hon, Nat.zero_add] at this
            have h7 : LD listed j = true := this
            rw [h7]; simp [h1]
          · subst h1; rw [hku']; simp
          · have hc : clash ops o x = true := by
              unfold clash
              rw [hjd]
              have : (looks ops o).any (Nat.beq t) = true := List.any_eq_true.2 ⟨t, ht, Nat.beq_refl t⟩
              simp [this]
            obtain ⟨e, he, hon, hb⟩ := hasEdge_iff (clashAll_spec hcl k j o x h1 ho' hx hc)
            have hnj : LD listed j = false := by
              cases hd : LD listed j with
              | false => rfl
              | true =>
                have := hclo j x hx hd e he hb
                rw [hon, Nat.zero_add, hku'] at this; cases this
            rw [hnj]; simp; omega
        · obtain ⟨x, hx⟩ := nth_some (l := ops.toList) (n := j) (by simp; omega)
          rw [dstOf_of hx] at hjd
          rcases Nat.lt_trichotomy j k with h1 | h1 | h1
          · have hc : clash ops x o = true := by
              unfold clash
              rw [hjd, hd]
              simp [Nat.beq_refl]
            obtain ⟨e, he, hon, hb⟩ := hasEdge_iff (clashAll_spec hcl j k x o h1 hx ho' hc)
            have := hdeps e he hb
            rw [hon, Nat.zero_add] at this
            have h7 : LD listed j = true := this
            rw [h7]; simp [h1]
          · subst h1; rw [hku']; simp
          · have hc : clash ops o x = true := by
              unfold clash
              rw [hjd, hd]
              simp [Nat.beq_refl]
            obtain ⟨e, he, hon, hb⟩ := hasEdge_iff (clashAll_spec hcl k j o x h1 ho' hx hc)
            have hnj : LD listed j = false := by
              cases hd : LD listed j with
              | false => rfl
              | true =>
                have := hclo j x hx hd e he hb
                rw [hon, Nat.zero_add, hku'] at this; cases this
            rw [hnj]; simp; omega
        · have hset := LD_set (listed := listed) (k := k) (by omega)
          refine ih (listed.setIfInBounds k true) φ' a' w' (by simpa using hsz) ?_ (fun i hi => ?_) (fun i oi hoi hdi e he hb => ?_) (by rw [hset]; exact I')
          · have : undone n (LD (listed.setIfInBounds k true)) < undone n (LD listed) := by
              rw [hset]
              refine filter_lt (fun x _ hx => ?_) ⟨k, List.mem_range.2 hkn, ?_, ?_⟩
              · simp only [Bool.not_eq_true', Bool.or_eq_false_iff] at hx ⊢
                exact hx.1
              · rw [hku']; rfl
              · simp [Nat.beq_refl]
            omega
          · rw [hset]
            have : Nat.beq i k = false := by
              cases hb : Nat.beq i k with
              | false => rfl
              | true => have := Nat.eq_of_beq_eq_true hb; omega
            simp only [this, Bool.or_false]
            exact hhi i hi
          · rw [hset] at hdi ⊢
            simp only [Bool.or_eq_true] at hdi ⊢
            rcases hdi with hdi | hdi
            · exact .inl (hclo i oi hoi hdi e he hb)
            · have := Nat.eq_of_beq_eq_true hdi
              subst this
              rw [ho'] at hoi; cases hoi
              exact .inl (hdeps e he hb)
      · have hdone : ∀ m, hasEdge o m = true → LD listed m = true := fun m hm => by
          obtain ⟨e, he, hon, hb⟩ := hasEdge_iff hm
          have := hdeps e he hb
          rw [hon] at this
          exact this
        have h2 : LD listed j = true := by
          rcases hlast o k hkn ho' j hjn with h1 | ⟨m, y, h1, hy, h3⟩
          · exact hdone j h1
          · obtain ⟨e, he, hon, hb⟩ := hasEdge_iff h3
            have := hclo m y hy (hdone m h1) e he hb
            rw [hon] at this
            exact this
        rw [hju] at h2; cases h2

def pendPE : Option (HE E) → PE
  | some _ => .abs
  | none => .dead

theorem Reg.init {φ0 : List PE} {H0 : Hp E} {wb : World} {φ : List PE} {a : Act} {w : World} (S : Steps E ops n Fs Hs ps) (hI : Inv φ0 H0 wb φ (Hs 0) w) (hF : RF φ (Fs 0) a.tmps) :
    Reg E ops n Fs Hs ps φ w a.defers a.tmps (fun _ => false) (φ ++ ((Hs n).drop (Hs 0).length).map pendPE) a w := by
  have h0n := S.le (k := 0) (m := n) (Nat.zero_le _) (Nat.le_refl _)
  have hl := hI.rh.len
  have hold : ∀ i, i < (Hs 0).length → nth (φ ++ ((Hs n).drop (Hs 0).length).map pendPE) i = nth φ i := fun i hi => by rw [nth_append, if_pos (by omega)]
  have hnew : ∀ i x, (Hs 0).length ≤ i → nth (Hs n) i = some x → nth (φ ++ ((Hs n).drop (Hs 0).length).map pendPE) i = some (pendPE x) := fun i x hi hx => by
    rw [nth_append, if_neg (by omega), nth_map, nth_drop, hl, show (Hs 0).length + (i - (Hs 0).length) = i from by omega, hx]
    rfl
  have htk0 : (φ ++ ((Hs n).drop (Hs 0).length).map pendPE).take (Hs 0).length = φ := by
    rw [← hl, List.take_left']
    rfl
  have hpre : ∀ k, k ≤ n → Ref φ ((φ ++ ((Hs n).drop (Hs 0).length).map pendPE).take (Hs k).length) := fun k hk i pe hp => by
    right
    have hi := nth_lt hp
    have := S.le (k := 0) (m := k) (Nat.zero_le _) hk
    rw [nth_take, if_pos (by omega)]
    exact nth_append_left hp
  have hlen : (φ ++ ((Hs n).drop (Hs 0).length).map pendPE).length = (Hs n).length := by
    rw [List.length_append, List.length_map, List.length_drop]; omega
  refine ⟨hlen, fun k hk => ?_, hF.1.symm, fun t k av hk _ ht => ?_, htk0, fun k hk _ i h1 h2 => ?_, fun i L hi hL => ?_, fun k _ h => (by cases h), Calm.refl _, Nat.le_refl _, fun _ _ => rfl, rfl, fun _ _ => rfl⟩
  · have h0k := S.le (k := 0) (m := k) (Nat.zero_le _) hk
    have hkn := S.le (k := k) (m := n) hk (Nat.le_refl _)
    refine ⟨by rw [List.length_take, hlen]; omega, fun i pe x hp hx => ?_, fun i j L L' he hne hi hj hh hro => ?_⟩
    · have hik := nth_lt hx
      rw [nth_take, if_pos hik] at hp
      rcases Nat.lt_or_ge i (Hs 0).length with h1 | h1
      · rw [hold i h1] at hp
        rw [S.nth (k := 0) (Nat.zero_le _) hk h1] at hx
        exact (hI.rh.ent i pe x hp hx).ref (hpre k hk) (fun _ _ => rfl)
      · rw [← S.nth hk (Nat.le_refl _) hik] at hx
        rw [hnew i x h1 hx] at hp
        cases hp
        cases x <;> trivial
    · have hik := nth_lt hh
      rw [nth_take, if_pos hik] at hi
      rw [nth_take] at hj
      split at hj
      · rename_i hjk
        have hin : ∀ i L, i < (Hs k).length → nth (φ ++ ((Hs n).drop (Hs 0).length).map pendPE) i = some (.at L) → i < (Hs 0).length := fun i L hik hL => by
          rcases Nat.lt_or_ge i (Hs 0).length with h1 | h1
          · exact h1
          · obtain ⟨x, hx⟩ := nth_some (l := Hs n) (n := i) (by omega)
            rw [hnew i x h1 hx] at hL
            cases x <;> cases hL
        have h1 := hin i L hik hi
        have h2 := hin j L' hjk hj
        rw [hold i h1] at hi
        rw [hold j h2] at hj
        rw [S.nth (k := 0) (Nat.zero_le _) hk h1] at hh
        exact hI.rh.inj i j L L' he hne hi hj hh hro
      · cases hj
  · have hFD : nth (FD ops (Fs 0) ps (fun _ => false) n) t = nth (Fs 0) t := by
      clear ht
      induction n with
      | zero => rfl
      | succ n ih => 
        show nth (FD ops (Fs 0) ps (fun _ => false) n) t = _
        have : ∀ m, nth (FD ops (Fs 0) ps (fun _ => false) m) t = nth (Fs 0) t := fun m => by
          induction m with
          | zero => rfl
          | succ m ih => exact ih
        exact this n
    rw [hFD] at ht
    obtain ⟨v, h1, h2⟩ := hF.2 t av ht
    exact ⟨v, h1, h2.ref (hpre k hk)⟩
  · have h0k := S.le (k := 0) (m := k) (Nat.zero_le _) (by omega)
    have hkn := S.le (k := k + 1) (m := n) hk (Nat.le_refl _)
    obtain ⟨x, hx⟩ := nth_some (l := Hs n) (n := i) (by omega)
    rw [hnew i x (by omega) hx]
    cases x
    · exact .inr rfl
    · exact .inl rfl
  · have hi2 := nth_lt hL
    rw [hlen] at hi2
    obtain ⟨x, hx⟩ := nth_some (l := Hs n) (n := i) hi2
    rw [hnew i x hi hx] at hL
    cases x <;> cases hL

/-- Those at the end, each behind all ahead of it: one order alone. -/
theorem tail_any {ops : Array Oper} (hbk : backEdges 0 ops.toList = true) {Q : Exit → Act → World → Prop} : ∀ (t : List Oper) (m : Nat) (listed : Array Bool) (a : Act) (w : World) (fuel : Nat), ops.size = m + t.length → (∀ k o, nth t k = some o → nth ops.toList (m + k) = some o) →
    (∀ k o, nth t k = some o → hasAll ops.toList o (m + k) = true) → listed.size = ops.size → (∀ j, j < m → LD listed j = true) → (∀ j, m ≤ j → LD listed j = false) → t.length ≤ fuel → wpList E.P ops Q t a w → wpAny E.P .any ops Q fuel listed a w
  | [], m, listed, a, w, fuel, hsz, _, _, hls, hdn, _, _, h => by
    refine wpAny_done ?_ h fuel
    rw [List.eq_nil_iff_forall_not_mem]
    intro j hj
    obtain ⟨h1, o', ho, _⟩ := mem_ready.1 hj
    have hjs : j < ops.size := (Array.getElem?_eq_some_iff.1 ho).1
    have := hdn j (by simp at hsz; omega)
    rw [getD_lt (by omega) true false] at h1
    have h2 : LD listed j = false := h1
    rw [this] at h2; cases h2
  | o :: t, m, listed, a, w, fuel, hsz, hat, hha, hls, hdn, hhi, hfu, h => by
    obtain ⟨f, rfl⟩ : ∃ f, fuel = f + 1 := ⟨fuel - 1, by simp at hfu; omega⟩
    have hol : nth ops.toList m = some o := hat 0 o rfl
    have hrd : ∀ j, j ∈ Region.ready .any ops listed ↔ j = m := fun j => by
      refine ⟨fun hj => ?_, fun hj => ?_⟩
      · obtain ⟨h1, o', ho, hdeps⟩ := mem_ready.1 hj
        have hjs : j < ops.size := (Array.getElem?_eq_some_iff.1 ho).1
        rcases Nat.lt_or_ge j m with h2 | h2
        · have := hdn j h2
          rw [getD_lt (by omega) true false] at h1
          have h2 : LD listed j = false := h1
          rw [this] at h2; cases h2
        · rcases Nat.lt_or_ge m j with h3 | h3
          · -- one that waits for number 'm'
            exfalso
            have ho' : nth ops.toList j = some o' := by rw [nth_eq]; simpa using ho
            obtain ⟨x, hx⟩ := nth_some (l := o :: t) (n := j - m) (by omega)
            have h4 := hat (j - m) x hx
            rw [show m + (j - m) = j by omega, ho'] at h4
            cases h4
            have h5 := hha (j - m) _ hx
            rw [show m + (j - m) = j by omega] at h5
            have hnm : LD listed m = false := hhi m (Nat.le_refl _)
            have hed : ∀ i, hasEdge o' i = true → i < m := fun i hi => by
              obtain ⟨e, he, hon, hb⟩ := hasEdge_iff hi
              have h6 := hdeps e he hb
              rw [hon] at h6
              have h6 : LD listed i = true := h6
              rcases Nat.lt_or_ge i m with h7 | h7
              · exact h7
              · rw [hhi i h7] at h6; cases h6
            rcases hasAll_spec h5 m h3 with h6 | ⟨i, y, h6, hy, h7⟩
            · have := hed m h6; omega
            · have h8 := hed i h6
              obtain ⟨e, he, hon, hb⟩ := hasEdge_iff h7
              have := backEdges_spec hbk i y hy e he hb
              omega
          · omega
      · subst hj
        refine mem_ready.2 ⟨?_, o, ops_at hol, fun e he2 hb => ?_⟩
        · rw [getD_lt (by simp at hsz; omega) true false]; exact hhi _ (Nat.le_refl _)
        · have := backEdges_spec hbk j o hol e he2 hb
          exact hdn _ (by omega)
    refine ⟨fun h0 => ?_, fun j hj => ?_⟩
    · have := (hrd m).2 rfl
      rw [h0] at this; cases this
    · have hj := (hrd j).1 hj
      subst hj
      have hrest : ∀ a2 w2, wpList E.P ops Q t a2 w2 → wpAny E.P .any ops Q f (listed.setIfInBounds j true) a2 w2 := fun a2 w2 h2 => by
        refine tail_any hbk t (j + 1) _ a2 w2 f (by simp at hsz; omega) (fun k x hx => ?_) (fun k x hx => ?_) (by simpa using hls) (fun i hi => ?_) (fun i hi => ?_) (by simp at hfu; omega) h2
        · rw [show j + 1 + k = j + (k + 1) by omega]; exact hat (k + 1) x hx
        · rw [show j + 1 + k = j + (k + 1) by omega]; exact hha (k + 1) x hx
        · rw [LD_set (by simp at hsz; omega)]
          dsimp only
          by_cases he : i = j
          · subst he; simp [Nat.beq_refl]
          · have := hdn i (by omega)
            rw [this]; rfl
        · rw [LD_set (by simp at hsz; omega)]
          dsimp only
          have hb : Nat.beq i j = false := by
            cases hb : Nat.beq i j with
            | false => rfl
            | true => have := Nat.eq_of_beq_eq_true hb; omega
          rw [hb, hhi i (by omega)]; rfl
      refine wpOp_mono hrest ?_
      unfold wpList at h
      unfold wpOp
      rw [ops_at hol]
      exact h

theorem draw_ok (ok : EnvOk E) : DrawOk E := by
  intro R m O hO id ops F H K r h
  unfold evalDraw at h
  obtain ⟨hd, h⟩ := cond_none_right h
  obtain ⟨l, t, hp, he⟩ : ∃ l t, drawParts ops = (l, t) ∧ ops.toList = l ++ t := ⟨_, _, rfl, (calmHead_append ops.toList).symm⟩
  have hd2 := hd
  unfold drawOk at hd2
  simp only [Bool.and_eq_true] at hd2
  obtain ⟨⟨hcl, hbk⟩, htl⟩ := hd2
  rw [hp] at h htl
  simp only at h htl
  obtain ⟨Fs, Hs, ps, rfl, rfl, h, hall⟩ := evalCalm_ok ok hO l F H _ r h
  obtain ⟨F', H', hK, hok⟩ := evalOps_ok ok hO t _ _ _ r h
  have hsz : ops.size = ops.toList.length := by simp
  have hpre : ∀ k o, nth l k = some o → nth ops.toList k = some o := fun k o hk => by rw [he]; exact nth_append_left hk
  have hsuf : ∀ k o, nth t k = some o → nth ops.toList (l.length + k) = some o := fun k o hk => by
    rw [he, nth_append, if_neg (by omega), show l.length + k - l.length = k by omega]; exact hk
  have S : Steps E ops l.length Fs Hs ps := ⟨fun k hk => by
    obtain ⟨o, ho⟩ := nth_some hk
    exact ⟨o, hpre k o ho, hall k o ho⟩⟩
  have hsz1 : ops.size = l.length + t.length := by rw [hsz, he]; simp
  have hha : ∀ k o, nth t k = some o → hasAll ops.toList o (l.length + k) = true := fun k o hk => tailAll_spec htl k o hk
  refine ⟨F', H', hK, fun φ0 H0 w0 φ a w Q hl hm hI hF hq => ?_⟩
  refine wp_region_any ok.mixed ?_
  have hI' := hI.drew (w.drawn + 1)
  have hLD : LD (Array.replicate ops.size false) = fun _ => false := by
    funext j
    simp only [LD, Array.getD_eq_getD_getElem?, Array.getElem?_replicate]
    split <;> rfl
  refine reg_any (φs := φ) (w0 := { w with drawn := w.drawn + 1 }) (df := a.defers) (tm0 := a.tmps) S hcl hbk (by omega) (fun listed φ' a' w' hls I hdn hhi fuel hfu => ?_) (fun o k hk ho j hj => ?_) ops.size _ _ a _ (by simp) ?_ (fun j _ => by rw [hLD]) (fun k o _ h => by rw [hLD] at h; cases h) (by rw [hLD]; exact Reg.init S hI' hF)
  · obtain ⟨hI2, hF2, _⟩ := I.done S hdn (hI.drew (w.drawn + 1))
    have hlist := hok φ0 H0 w0 φ' a' w' Q hl hI2 hF2 (fun φ2 a2 w2 hI3 hF3 hd3 hk3 => hq φ2 a2 w2 hI3 hF3 (hd3.trans I.defers) fun x hx => (hk3 x fun o' ho' => hx o' (by rw [he]; exact List.mem_append_right _ ho')).trans (I.keep x hx))
    exact tail_any hbk t l.length listed a' w' fuel hsz1 hsuf hha hls hdn hhi (by omega) hlist
  · have hkt : k < ops.toList.length := nth_lt ho
    obtain ⟨x, hx⟩ := nth_some (l := t) (n := k - l.length) (by rw [← hsz, hsz1] at hkt; omega)
    have h1 := hsuf _ x hx
    rw [show l.length + (k - l.length) = k by omega, ho] at h1
    cases h1
    have := hha _ _ hx
    rw [show l.length + (k - l.length) = k by omega] at this
    exact hasAll_spec this j (by omega)
  · have : undone l.length (LD (Array.replicate ops.size false)) ≤ l.length := by
      unfold undone
      exact Nat.le_trans (List.length_filter_le _ _) (by simp)
    omega
end
end Go.Eng
