import Derived.Test.YtflmjaehnbnjnaaEngR
set_option linter.all false
namespace Go.Eng
open Go Go.RowKit

section
variable {E : Env} {R : Type}

theorem hasEdge_iff {o : Oper} {i : Nat} (h : hasEdge o i = true) : ∃ e ∈ o.after, e.on = i ∧ Region.binds .any e = true := by
  unfold hasEdge at h
  obtain ⟨e, he, hb⟩ := List.any_eq_true.1 h
  simp only [Bool.and_eq_true] at hb
  exact ⟨e, by simpa using he, Nat.eq_of_beq_eq_true hb.1, hb.2⟩

theorem clashOk_spec {ops : Array Oper} {x : Oper} {i : Nat} : ∀ {l : List Oper}, clashOk ops x i l = true → ∀ k y, nth l k = some y → clash ops x y = true → hasEdge y i = true
  | [], _, k, y, hy, _ => by cases hy
  | z :: l, h, k, y, hy, hc => by
    simp only [clashOk, Bool.and_eq_true, Bool.or_eq_true, Bool.not_eq_true'] at h
    cases k with
    | zero =>
      cases hy
      rcases h.1 with h1 | h1
      · rw [hc] at h1; cases h1
      · exact h1
    | succ k => exact clashOk_spec h.2 k y hy hc

theorem clashAll_spec {ops : Array Oper} : ∀ {l : List Oper} {b : Nat}, clashAll ops b l = true → ∀ i j x y, i < j → nth l i = some x → nth l j = some y → clash ops x y = true → hasEdge y (b + i) = true
  | [], _, _, i, _, _, _, _, hx, _, _ => by cases hx
  | z :: l, b, h, i, j, x, y, hij, hx, hy, hc => by
    simp only [clashAll, Bool.and_eq_true] at h
    cases j with
    | zero => omega
    | succ j =>
      cases i with
      | zero => cases hx; exact clashOk_spec h.1 j y hy hc
      | succ i =>
        have := clashAll_spec h.2 i j x y (by omega) hx hy hc
        rwa [show b + 1 + i = b + (i + 1) from by omega] at this

theorem backEdges_spec : ∀ {l : List Oper} {b : Nat}, backEdges b l = true → ∀ i o, nth l i = some o → ∀ e ∈ o.after, Region.binds .any e = true → e.on < b + i
  | [], _, _, i, o, ho, _, _, _ => by cases ho
  | z :: l, b, h, i, o, ho, e, he, hb => by
    simp only [backEdges, Bool.and_eq_true, List.all_eq_true] at h
    cases i with
    | zero =>
      cases ho
      have := h.1 e (by simpa using he)
      rw [hb] at this
      simp only [Bool.not_true, Bool.false_or] at this
      exact Nat.le_of_ble_eq_true this
    | succ i =>
      have := backEdges_spec h.2 i o ho e he hb
      omega

def undone (m : Nat) (D : Nat → Bool) : Nat := ((List.range m).filter fun i => !D i).length

theorem filter_lt {p q : Nat → Bool} : ∀ {l : List Nat}, (∀ x ∈ l, q x = true → p x = true) → (∃ i ∈ l, p i = true ∧ q i = false) → (l.filter q).length < (l.filter p).length
  | [], _, h => by obtain ⟨i, hi, _⟩ := h; cases hi
  | a :: l, h, hex => by
    have hle : (l.filter q).length ≤ (l.filter p).length := by
      clear hex
      induction l with
      | nil => exact Nat.le_refl _
      | cons b l ih =>
        have ih := ih (fun x hx => h x (by rcases List.mem_cons.1 hx with rfl | hx <;> simp [*]))
        have hb := h b (by simp)
        simp only [List.filter_cons]
        cases hq : q b with
        | true => rw [hb hq]; simp; omega
        | false => cases p b <;> simp <;> omega
    obtain ⟨i, hi, hpi, hqi⟩ := hex
    simp only [List.filter_cons]
    rcases List.mem_cons.1 hi with rfl | hi
    · rw [hpi, hqi]; simp; omega
    · have := filter_lt (p := p) (q := q) (l := l) (fun x hx => h x (by simp [hx])) ⟨i, hi, hpi, hqi⟩
      have ha := h a (by simp)
      cases hq : q a with
      | true => rw [ha hq]; simp; omega
      | false => cases p a <;> simp <;> omega

variable {ops : Array Oper} {n : Nat} {Fs : Nat → Fr} {Hs : Nat → Hp E} {ps : Nat → AV} {Vs wrs : Nat → Nat → Bool} {φs : List PE} {w0 : World} {df : List Deferred} {tm0 : Array Value}

abbrev LD (listed : Array Bool) (j : Nat) : Bool := listed.getD j false

theorem LD_set {listed : Array Bool} {k : Nat} (hk : k < listed.size) : LD (listed.setIfInBounds k true) = fun j => LD listed j || Nat.beq j k := by
  funext j
  simp only [LD, Array.getD_eq_getD_getElem?, Array.getElem?_setIfInBounds]
  by_cases h : k = j
  · subst h; simp [hk, Nat.beq_refl]
  · rw [if_neg h]
    have : Nat.beq j k = false := by
      cases hb : Nat.beq j k with
      | false => rfl
      | true => exact absurd (Nat.eq_of_beq_eq_true hb).symm h
    rw [this, Bool.or_false]

theorem getD_lt {listed : Array Bool} {j : Nat} (h : j < listed.size) (b c : Bool) : listed.getD j b = listed.getD j c := by
  simp [Array.getD_eq_getD_getElem?, h]

theorem reg_any (ok : EnvOk E) (S : Steps E ops n Fs Hs ps Vs wrs) (hcl : clashAll ops 0 ops.toList = true) (hbk : backEdges 0 ops.toList = true) (hn : n = ops.size) {Q : Exit → Act → World → Prop}
    (hend : ∀ listed φ a w, listed.size = ops.size → Reg E ops n Fs Hs ps Vs wrs φs w0 df tm0 (LD listed) φ a w → (∀ j, j < n → LD listed j = true) → (∀ j, n ≤ j → LD listed j = false) → ∀ fuel, ops.size - n ≤ fuel → wpAny E.P .any ops Q fuel listed a w) :
    ∀ (fuel : Nat) (listed : Array Bool) (φ : List PE) (a : Act) (w : World), listed.size = ops.size → undone n (LD listed) + (ops.size - n) ≤ fuel → (∀ j, n ≤ j → LD listed j = false) →
      (∀ k o, nth ops.toList k = some o → LD listed k = true → ∀ e ∈ o.after, Region.binds .any e = true → LD listed e.on = true) →
      Reg E ops n Fs Hs ps Vs wrs φs w0 df tm0 (LD listed) φ a w → wpAny E.P .any ops Q fuel listed a w := by
  intro fuel
  induction fuel with
  | zero =>
    intro listed φ a w hsz hfu hhi hclo I
    refine hend listed φ a w hsz I (fun j hj => ?_) hhi 0 (by omega)
    have h0 : undone n (LD listed) = 0 := by omega
    unfold undone at h0
    have h1 := List.eq_nil_of_length_eq_zero h0
    rw [List.filter_eq_nil_iff] at h1
    have := h1 j (List.mem_range.2 hj)
    simpa using this
  | succ fuel ih =>
    intro listed φ a w hsz hfu hhi hclo I
    by_cases hall : ∀ j, j < n → LD listed j = true
    · exact hend listed φ a w hsz I hall hhi _ (by omega)
    · -- some is to come
      have hex : ∃ j, j < n ∧ LD listed j = false := by
        by_cases h : ∃ j, j < n ∧ LD listed j = false
        · exact h
        · refine absurd (fun j hj => ?_) hall
          cases hd : LD listed j with
          | true => rfl
          | false => exact absurd ⟨j, hj, hd⟩ h
      have hleast : ∀ m, (∃ j, j < m ∧ j < n ∧ LD listed j = false) → ∃ j, j < n ∧ LD listed j = false ∧ ∀ i, i < j → LD listed i = true := by
        intro m
        induction m with
        | zero => rintro ⟨j, h, _⟩; omega
        | succ m ihm =>
          rintro ⟨j, hjm, hjn, hj⟩
          by_cases h : ∃ j, j < m ∧ j < n ∧ LD listed j = false
          · exact ihm h
          · refine ⟨j, hjn, hj, fun i hi => ?_⟩
            cases hd : LD listed i with
            | true => rfl
            | false => exact absurd ⟨i, by omega, by omega, hd⟩ h
      obtain ⟨j0, hj0, hu0⟩ := hex
      obtain ⟨j, hjn, hju, hjl⟩ := hleast (j0 + 1) ⟨j0, by omega, hj0, hu0⟩
      have hrj : j ∈ Region.ready .any ops listed := by
        obtain ⟨o, ho, _⟩ := S.step j hjn
        refine mem_ready.2 ⟨?_, o, ops_at ho, fun e he hb => ?_⟩
        · rw [getD_lt (by omega) true false]; exact hju
        · have := backEdges_spec hbk j o ho e he hb
          exact hjl _ (by omega)
      refine ⟨fun h => (by rw [h] at hrj; cases hrj), fun k hk => ?_⟩
      obtain ⟨hku, o, ho, hdeps⟩ := mem_ready.1 hk
      have hks : k < ops.size := (Array.getElem?_eq_some_iff.1 ho).1
      have ho' : nth ops.toList k = some o := by rw [nth_eq]; simpa using ho
      have hku' : LD listed k = false := by rw [getD_lt (by omega) true false] at hku; exact hku
      have hbefore : ∀ i m, Before ops i m → ∀ om, nth ops.toList m = some om → (∀ e ∈ om.after, Region.binds .any e = true → LD listed e.on = true) → LD listed i = true := fun i m hb => by
        induction hb with
        | edge h1 h2 =>
          intro om hom hd
          rw [h1] at hom; cases hom
          obtain ⟨e, he, hon, hbi⟩ := hasEdge_iff h2
          have := hd e he hbi
          rwa [hon] at this
        | step h1 h2 h3 ihb =>
          intro om hom hd
          rw [h1] at hom; cases hom
          obtain ⟨e, he, hon, hbi⟩ := hasEdge_iff h2
          have h4 := hd e he hbi
          rw [hon] at h4
          obtain ⟨o2, ho2⟩ : ∃ o2, nth ops.toList _ = some o2 := by cases h3 with | edge h _ => exact ⟨_, h⟩ | step h _ _ => exact ⟨_, h⟩
          exact ihb o2 ho2 (hclo _ o2 ho2 h4)
      rcases Nat.lt_or_ge k n with hkn | hkn
      · refine I.step ok S hkn hku' (fun i hi => hbefore i k hi o ho' hdeps) (fun i m hi hm => ?_) ho' ⟨fun t ht j hj hjd => ?_, fun d hd j hj hjd => ?_⟩ fun φ' a' w' I' => ?_
        · obtain ⟨om, hom⟩ : ∃ om, nth ops.toList m = some om := by cases hi with | edge h _ => exact ⟨_, h⟩ | step h _ _ => exact ⟨_, h⟩
          exact hbefore i m hi om hom (hclo m om hom hm)
        · obtain ⟨x, hx⟩ := nth_some (l := ops.toList) (n := j) (by simp; omega)
          rw [dstOf_of hx] at hjd
          rcases Nat.lt_trichotomy j k with h1 | h1 | h1
          · have hc : clash ops x o = true := by
              unfold clash
              rw [hjd]
              have : (looks ops o).any (Nat.beq t) = true := List.any_eq_true.2 ⟨t, ht, Nat.beq_refl t⟩
              simp [this]
            obtain ⟨e, he, hon, hb⟩ := hasEdge_iff (clashAll_spec hcl j k x o h1 hx ho' hc)
            have := hdeps e he hb
            rw [hon, Nat.zero_add] at this
            have h7 : LD listed j = true := this
            rw [h7]; simp [h1]
          · subst h1; rw [hku']; simp
          · have hc : clash ops o x = true := by
              unfold clash
              rw [hjd]
              have : (looks ops o).any (Nat.beq t) = true := List.any_eq_true.2 ⟨t, ht, Nat.beq_refl t⟩
              simp [this]
            obtain ⟨e, he, hon, hb⟩ := hasEdge_iff (clashAll_spec hcl k j o x h1 ho' hx hc)
            have hnj : LD listed j = false := by
              cases hd : LD listed j with
              | false => rfl
              | true =>
                have := hclo j x hx hd e he hb
                rw [hon, Nat.zero_add, hku'] at this; cases this
            rw [hnj]; simp; omega
        · obtain ⟨x, hx⟩ := nth_some (l := ops.toList) (n := j) (by simp; omega)
          rw [dstOf_of hx] at hjd
          rcases Nat.lt_trichotomy j k with h1 | h1 | h1
          · have hc : clash ops x o = true := by
              unfold clash
              rw [hjd, hd]
              simp [Nat.beq_refl]
            obtain ⟨e, he, hon, hb⟩ := hasEdge_iff (clashAll_spec hcl j k x o h1 hx ho' hc)
            have := hdeps e he hb
            rw [hon, Nat.zero_add] at this
            have h7 : LD listed j = true := this
            rw [h7]; simp [h1]
          · subst h1; rw [hku']; simp
          · have hc : clash ops o x = true := by
              unfold clash
              rw [hjd, hd]
              simp [Nat.beq_refl]
            obtain ⟨e, he, hon, hb⟩ := hasEdge_iff (clashAll_spec hcl k j o x h1 ho' hx hc)
            have hnj : LD listed j = false := by
              cases hd : LD listed j with
              | false => rfl
              | true =>
                have := hclo j x hx hd e he hb
                rw [hon, Nat.zero_add, hku'] at this; cases this
            rw [hnj]; simp; omega
        · have hset := LD_set (listed := listed) (k := k) (by omega)
          refine ih (listed.setIfInBounds k true) φ' a' w' (by simpa using hsz) ?_ (fun i hi => ?_) (fun i oi hoi hdi e he hb => ?_) (by rw [hset]; exact I')
          · have : undone n (LD (listed.setIfInBounds k true)) < undone n (LD listed) := by
              rw [hset]
              refine filter_lt (fun x _ hx => ?_) ⟨k, List.mem_range.2 hkn, ?_, ?_⟩
              · simp only [Bool.not_eq_true', Bool.or_eq_false_iff] at hx ⊢
                exact hx.1
              · rw [hku']; rfl
              · simp [Nat.beq_refl]
            omega
          · rw [hset]
            have : Nat.beq i k = false := by
              cases hb : Nat.beq i k with
              | false => rfl
              | true => have := Nat.eq_of_beq_eq_true hb; omega
            simp only [this, Bool.or_false]
            exact hhi i hi
          · rw [hset] at hdi ⊢
            simp only [Bool.or_eq_true] at hdi ⊢
            rcases hdi with hdi | hdi
            · exact .inl (hclo i oi hoi hdi e he hb)
            · have := Nat.eq_of_beq_eq_true hdi
              subst this
              rw [ho'] at hoi; cases hoi
              exact .inl (hdeps e he hb)
      · omega

theorem draw_ok (ok : EnvOk E) : DrawOk E := by
  intro R m O hO id ws ops F H K r h
  unfold evalDraw at h
  obtain ⟨hd, h⟩ := cond_none_right h
  unfold drawOk at hd
  simp only [Bool.and_eq_true] at hd
  obtain ⟨hcl, hbk⟩ := hd
  obtain ⟨Fs, Hs, ps, Vs, wrs, rfl, rfl, hK, hall⟩ := evalD_ok ok hO ops.toList 0 [] _ _ _ r (fun j o hj => by rwa [Nat.zero_add]) h
  have hsz : ops.toList.length = ops.size := by simp
  have S : Steps E ops ops.toList.length Fs Hs ps Vs wrs := ⟨fun k hk => by
    obtain ⟨o, ho⟩ := nth_some hk
    exact ⟨o, ho, (hall k o ho).1⟩, fun j k hjk hk => by
    obtain ⟨o, ho⟩ := nth_some hk
    have := (hall k o ho).2.2 j hjk
    rwa [Nat.zero_add, Nat.zero_add] at this⟩
  refine ⟨_, _, hK, fun φ0 H0 w0 φ a w Q hl hm hI hF hq => ?_⟩
  refine wp_region_any ok.mixed ?_
  have hI' := hI.drew (w.drawn + 1)
  have hLD : LD (Array.replicate ops.size false) = fun _ => false := by
    funext j
    simp only [LD, Array.getD_eq_getD_getElem?, Array.getElem?_replicate]
    split <;> rfl
  refine reg_any ok (φs := φ) (w0 := { w with drawn := w.drawn + 1 }) (df := a.defers) (tm0 := a.tmps) S hcl hbk hsz (fun listed φ' a' w' hls I hdn hhi fuel hfu => ?_) ops.size _ _ a _ (by simp) ?_ (fun j _ => by rw [hLD]) (fun k o _ h => by rw [hLD] at h; cases h) (by rw [hLD]; exact Reg.init ok S hI' hF)
  · obtain ⟨hI2, hF2, _⟩ := I.done S hdn hl hI'
    refine wpAny_done ?_ (hq φ' a' w' hI2 hF2 I.defers I.keep) fuel
    rw [List.eq_nil_iff_forall_not_mem]
    intro j hj
    obtain ⟨h1, o', ho, _⟩ := mem_ready.1 hj
    have hjs : j < ops.size := (Array.getElem?_eq_some_iff.1 ho).1
    have := hdn j (by omega)
    rw [getD_lt (by omega) true false] at h1
    have h2 : LD listed j = false := h1
    rw [this] at h2; cases h2
  · have : undone ops.toList.length (LD (Array.replicate ops.size false)) ≤ ops.toList.length := by
      unfold undone
      exact Nat.le_trans (List.length_filter_le _ _) (by simp)
    omega
end
end Go.Eng
