import Derived.Test.YtjimjkhpahegjaaEngQ
set_option linter.all false
namespace Go.Eng
open Go Go.RowKit

section
variable {E : Env} {R : Type}
variable {ops : Array Oper} {n : Nat} {Fs : Nat → Fr} {Hs : Nat → Hp E} {ps : Nat → AV} {φs : List PE} {w0 : World} {df : List Deferred} {tm0 : Array Value} {D : Nat → Bool} {φ : List PE} {a : Act} {w : World}

theorem dstOf_of {k : Nat} {o : Oper} (h : nth ops.toList k = some o) : dstOf ops k = o.dst := by unfold dstOf; rw [h]; rfl

theorem ops_at {k : Nat} {o : Oper} (h : nth ops.toList k = some o) : ops[k]? = some o := by rw [nth_eq] at h; simpa using h

theorem mem_of_nth {α : Type} {l : List α} {k : Nat} {x : α} (h : nth l k = some x) : x ∈ l := by
  rw [nth_eq] at h
  exact List.mem_of_getElem? h

/-- Number 'k' may be carried out: what it reads was written, what it writes was not written by a later one. -/
structure MayGo (ops : Array Oper) (n : Nat) (D : Nat → Bool) (k : Nat) (o : Oper) : Prop where
  reads : ∀ t, t ∈ looks ops o → ∀ j, j < n → dstOf ops j = some t → D j = decide (j < k)
  writes : ∀ d, o.dst = some d → ∀ j, j < n → dstOf ops j = some d → D j = decide (j < k)

/-- Behind number 'k': what the run of it gave, laid in. -/
theorem Reg.after (S : Steps E ops n Fs Hs ps) (I : Reg E ops n Fs Hs ps φs w0 df tm0 D φ a w) {k : Nat} (hk : k < n) (hDk : D k = false) {o : Oper} (ho : nth ops.toList k = some o) (hst : StepOk E ops o (Fs k) (Hs k) (ps k) (Fs (k + 1)) (Hs (k + 1)))
    (hm : MayGo ops n D k o) {φ' : List PE} {H' : Hp E} {w' : World} {rv : Value} (hI : Inv (φ.take (Hs k).length) (roAll E (Hs k)) w φ' H' w') (hx : Ext (φ.take (Hs k).length) φ') (hH : Hs (k + 1) = Hs k ++ H'.drop (Hs k).length) (hv : RA φ' (ps k) rv) :
    Reg E ops n Fs Hs ps φs w0 df tm0 (fun j => D j || Nat.beq j k) (φ' ++ φ.drop (Hs (k + 1)).length) (a.put o.dst rv) w' := by
  have hlk : (Hs k).length ≤ (Hs n).length := S.le (by omega) (Nat.le_refl _)
  have hlk1 : (Hs (k + 1)).length ≤ (Hs n).length := S.le (by omega) (Nat.le_refl _)
  have hφk : (φ.take (Hs k).length).length = (Hs k).length := by rw [List.length_take, I.len]; omega
  have hH'len : (Hs k).length ≤ H'.length := by have := hI.hle; rwa [roAll_length] at this
  have hl1 : (Hs (k + 1)).length = H'.length := by rw [hH, List.length_append, List.length_drop]; omega
  have hφ'len : φ'.length = (Hs (k + 1)).length := by rw [hl1]; exact hI.rh.len
  have hsw : ∀ b, b < w.heap.size → w'.heap[b]? = w.heap[b]? := fun b hb => hI.same b (fun hwb => by
    rcases hwb with h1 | ⟨j, L0, he0, h1, h2, h3, h4⟩
    · omega
    · rw [nth_roAll] at h3
      obtain ⟨y, hy, hye⟩ := Option.map_eq_some_iff.1 h3
      cases y with
      | none => cases hye
      | some y => cases hye; cases h4)
  have hsz : w.heap.size ≤ w'.heap.size := hI.size
  -- what was there stays
  have hold : ∀ i, i < (Hs k).length → nth φ' i = nth φ i := fun i hi => by
    obtain ⟨pe, hpe⟩ := nth_some (l := φ.take (Hs k).length) (n := i) (by omega)
    have hpe2 : nth φ i = some pe := by rw [nth_take, if_pos hi] at hpe; exact hpe
    rw [hpe2]
    rcases hx i pe hpe with h1 | h1
    · exact h1
    · obtain ⟨x, hxx⟩ := nth_some (l := Hs k) (n := i) hi
      have hent := (I.rh k (by omega)).ent i pe x hpe hxx
      cases x with
      | none =>
        cases pe <;> first | exact h1 | exact hent.elim
      | some he =>
        have hr : nth (roAll E (Hs k)) i = some (some ⟨true, he.b⟩) := by rw [nth_roAll, hxx]; rfl
        have := hI.rosame i _ hr rfl
        exact (hI.rh.ent i _ _ h1 this).elim
  -- the new placing
  have hnew : ∀ i, nth (φ' ++ φ.drop (Hs (k + 1)).length) i = if i < (Hs (k + 1)).length then nth φ' i else nth φ i := fun i => by
    rw [nth_append, hφ'len]
    split
    · rfl
    · rw [nth_drop]; congr 1; omega
  have hnew1 : ∀ i, i < (Hs k).length ∨ (Hs (k + 1)).length ≤ i → nth (φ' ++ φ.drop (Hs (k + 1)).length) i = nth φ i := fun i hi => by
    rw [hnew]
    rcases hi with hi | hi
    · rw [if_pos (by have := S.le (k := k) (m := k + 1) (by omega) (by omega); omega), hold i hi]
    · rw [if_neg (by omega)]
  have hpk := I.pend k hk hDk
  -- entries of the new blocks in the later heaps
  have hHnew : ∀ i, (Hs k).length ≤ i → i < (Hs (k + 1)).length → nth (Hs n) i = nth H' i := fun i h1 h2 => by
    rw [S.nth (k := k + 1) (by omega) (Nat.le_refl _) h2, hH, nth_append, if_neg (by omega), nth_drop]
    congr 1; omega
  have hfre : ∀ i L, (Hs k).length ≤ i → nth φ' i = some (.at L) → w.heap.size ≤ L.b := fun i L hi hL => by
    rcases hI.fresh i L (by rw [roAll_length]; exact hi) hL with h1 | ⟨j, L0, he0, h1, h2, h3, h4⟩
    · exact h1
    · rw [nth_roAll] at h3
      obtain ⟨y, hy, hye⟩ := Option.map_eq_some_iff.1 h3
      cases y with
      | none => cases hye
      | some y => cases hye; cases h4
  -- dead among the blocks to come is dead still
  have href : ∀ m, m ≤ n → Ref (φ.take (Hs m).length) ((φ' ++ φ.drop (Hs (k + 1)).length).take (Hs m).length) := fun m hm' i pe hp => by
    rw [nth_take] at hp ⊢
    split at hp
    · rename_i him
      rw [if_pos him]
      by_cases hi : i < (Hs k).length ∨ (Hs (k + 1)).length ≤ i
      · right; rw [hnew1 i hi]; exact hp
      · have h1 : (Hs k).length ≤ i := by omega
        have h2 : i < (Hs (k + 1)).length := by omega
        rcases hpk i h1 h2 with h3 | h3
        · rw [hp] at h3; cases h3; exact .inl rfl
        · rw [hp] at h3; cases h3
          right
          rw [hnew, if_pos h2]
          -- the heap holds nothing there
          have hin : i < (Hs n).length := by omega
          obtain ⟨x, hxx⟩ := nth_some (l := Hs n) (n := i) hin
          have hent := (I.rh n (Nat.le_refl _)).ent i .dead x (by rw [nth_take, if_pos hin]; exact hp) hxx
          cases x with
          | some _ => exact hent.elim
          | none =>
            rw [hHnew i h1 h2] at hxx
            obtain ⟨pe', hpe'⟩ := nth_some (l := φ') (n := i) (by omega)
            have := hI.rh.ent i pe' none hpe' hxx
            cases pe' <;> first | exact hpe' | exact this.elim
    · cases hp
  have htk : (φ' ++ φ.drop (Hs (k + 1)).length).take (Hs (k + 1)).length = φ' := by
    rw [List.take_append_of_le_length (by omega), List.take_of_length_le (by omega)]
  have hpre : ∀ m, k + 1 ≤ m → m ≤ n → Ext φ' ((φ' ++ φ.drop (Hs (k + 1)).length).take (Hs m).length) := fun m h1 h2 i pe hp => by
    left
    have hi := nth_lt hp
    rw [nth_take, if_pos (by have := S.le h1 h2; omega)]
    exact nth_append_left hp
  have hle1 : ∀ m, m ≤ k → (φ' ++ φ.drop (Hs (k + 1)).length).take (Hs m).length = φ.take (Hs m).length := fun m hm' => ext_nth fun i => by
    rw [nth_take, nth_take]
    split
    · exact hnew1 i (.inl (by have := S.le (k := m) (m := k) hm' (by omega); omega))
    · rfl
  have hdst := dstOf_of ho
  refine ⟨by simp only [List.length_append, List.length_drop]; have := I.len; omega, fun m hm' => ?_, ?_, fun t m av hmn hwr hF => ?_, ?_, fun j hj hDj i h1 h2 => ?_, fun i L hi hL => ?_, fun j hj hDj i he h1 h2 hh => ?_, I.calm.trans hI.calm, by have := I.size; omega, fun b hb => ?_, ?_, fun t ht => ?_⟩
  · -- the heaps
    by_cases hmk : m ≤ k
    · rw [hle1 m hmk]
      have h0 := I.rh m hm'
      exact ⟨h0.len, fun i pe x hp hxx => (h0.ent i pe x hp hxx).ref (fun _ _ h => .inr h) hsw, h0.inj⟩
    · have hmk : k + 1 ≤ m := by omega
      have h0 := I.rh m hm'
      have hlm := S.le hmk hm'
      have hlm2 : (Hs m).length ≤ (Hs n).length := S.le hm' (Nat.le_refl _)
      have hat : ∀ i L, i < (Hs m).length → nth φ i = some (.at L) → L.b < w.heap.size := fun i L hi hL => by
        obtain ⟨he, _, hb⟩ := h0.at_ (i := i) (L := L) (by rw [nth_take, if_pos hi]; exact hL)
        exact hb.lt
      refine ⟨by rw [List.length_take, List.length_append, List.length_drop, I.len]; omega, fun i pe x hp hxx => ?_, fun i j L L' he hne hi hj hh hro => ?_⟩
      · rw [nth_take] at hp
        have him := nth_lt hxx
        rw [if_pos him] at hp
        by_cases hi : i < (Hs k).length ∨ (Hs (k + 1)).length ≤ i
        · rw [hnew1 i hi] at hp
          exact (h0.ent i pe x (by rw [nth_take, if_pos him]; exact hp) hxx).ref (href m hm') hsw
        · have h1 : (Hs k).length ≤ i := by omega
          have h2 : i < (Hs (k + 1)).length := by omega
          rw [hnew, if_pos h2] at hp
          have h3 : nth H' i = some x := by rw [← hHnew i h1 h2, S.nth hm' (Nat.le_refl _) him]; exact hxx
          exact (hI.rh.ent i pe x hp h3).ext (hpre m hmk hm')
      · rw [nth_take] at hi hj
        have him := nth_lt hh
        rw [if_pos him] at hi
        split at hj
        · rename_i hjm
          rw [hnew] at hi hj
          by_cases hi2 : i < (Hs k).length ∨ (Hs (k + 1)).length ≤ i
          · have hiφ : nth φ i = some (.at L) := by
              have := hnew1 i hi2
              rw [hnew] at this
              rw [← this]; exact hi
            by_cases hj2 : j < (Hs k).length ∨ (Hs (k + 1)).length ≤ j
            · have hjφ : nth φ j = some (.at L') := by
                have := hnew1 j hj2
                rw [hnew] at this
                rw [← this]; exact hj
              exact h0.inj i j L L' he hne (by rw [nth_take, if_pos him]; exact hiφ) (by rw [nth_take, if_pos hjm]; exact hjφ) hh hro
            · rw [if_pos (by omega)] at hj
              have h5 := hfre j L' (by omega) hj
              have h6 := hat i L him hiφ
              omega
          · rw [if_pos (by omega)] at hi
            have h5 := hfre i L (by omega) hi
            by_cases hj2 : j < (Hs k).length ∨ (Hs (k + 1)).length ≤ j
            · have hjφ : nth φ j = some (.at L') := by
                have := hnew1 j hj2
                rw [hnew] at this
                rw [← this]; exact hj
              have h6 := hat j L' hjm hjφ
              omega
            · rw [if_pos (by omega)] at hj
              have h7 : nth H' i = some (some he) := by rw [← hHnew i (by omega) (by omega), S.nth hm' (Nat.le_refl _) him]; exact hh
              exact hI.rh.inj i j L L' he hne hi hj h7 (hI.newro i he (by rw [roAll_length]; omega) h7)
        · cases hj
  · -- the temporaries
    cases o.dst with
    | none => exact I.tm
    | some d => simp [Act.put, I.tm]
  · -- what they hold
    by_cases htd : o.dst = some t
    · have hkm : k < m := hwr k hk (by simp) (by rw [hdst]; exact htd)
      have hro := hst.room t htd
      have hlt : t < a.tmps.size := by rw [I.tm]; have := S.fs (k := k) (by omega); rw [this, FD_length] at hro; exact hro
      have hval : nth (FD ops (Fs 0) ps (fun j => D j || Nat.beq j k) n) t = nth (Fs (k + 1)) t := by
        rw [S.fs (k := k + 1) (by omega), ← FD_below (k + 1) (n - (k + 1)), show k + 1 + (n - (k + 1)) = n from by omega]
        refine FD_congr n fun j hj hjd => ?_
        have hw := hm.writes t htd j hj hjd
        rw [hw]
        by_cases hjk : j = k
        · subst hjk; simp
        · have hb : Nat.beq j k = false := by
            cases hb : Nat.beq j k with
            | false => rfl
            | true => exact absurd (Nat.eq_of_beq_eq_true hb) hjk
          rw [hb, Bool.or_false]
          have : (j < k) ↔ (j < k + 1) := by omega
          simp [this]
      rw [hval, hst.put, htd] at hF
      simp only [putF] at hF
      rw [nth_nset, if_pos ⟨rfl, hro⟩] at hF
      cases hF
      refine ⟨rv, ?_, hv.ext (hpre m hkm hmn)⟩
      rw [htd]
      simp [Act.put, hlt]
    · have hval : nth (FD ops (Fs 0) ps (fun j => D j || Nat.beq j k) n) t = nth (FD ops (Fs 0) ps D n) t := by
        refine FD_congr n fun j hj hjd => ?_
        have : Nat.beq j k = false := by
          cases hb : Nat.beq j k with
          | false => rfl
          | true =>
            have := Nat.eq_of_beq_eq_true hb
            subst this
            rw [hdst] at hjd
            exact absurd hjd htd
        rw [this, Bool.or_false]
      rw [hval] at hF
      obtain ⟨v, h1, h2⟩ := I.fr t m av hmn (fun j hj hDj hjd => hwr j hj (by simp [hDj]) hjd) hF
      refine ⟨v, ?_, h2.ref (href m hmn)⟩
      cases hd : o.dst with
      | none => exact h1
      | some d =>
        have hne : d ≠ t := fun e => htd (by rw [hd, e])
        simp only [Act.put, Array.getElem?_setIfInBounds_ne hne]
        exact h1
  · rw [hle1 0 (Nat.zero_le _)]; exact I.base
  · have hjk : j ≠ k := fun e => by subst e; simp at hDj
    have hDj' : D j = false := by
      cases hd : D j with
      | false => rfl
      | true => simp [hd] at hDj
    have : i < (Hs k).length ∨ (Hs (k + 1)).length ≤ i := by
      rcases Nat.lt_or_ge j k with h | h
      · left; have := S.le (k := j + 1) (m := k) (by omega) (by omega); omega
      · right; have := S.le (k := k + 1) (m := j) (by omega) (by omega); omega
    rw [hnew1 i this]
    exact I.pend j hj hDj' i h1 h2
  · rw [hnew] at hL
    by_cases hi2 : i < (Hs k).length ∨ (Hs (k + 1)).length ≤ i
    · have := hnew1 i hi2
      rw [hnew] at this
      rw [this] at hL
      exact I.fresh i L hi hL
    · rw [if_pos (by omega)] at hL
      have := hfre i L (by omega) hL
      have := I.size
      omega
  · by_cases hjk : j = k
    · subst hjk
      rw [hHnew i h1 h2] at hh
      exact hI.newro i he (by rw [roAll_length]; exact h1) hh
    · have hb : Nat.beq j k = false := by
        cases hb : Nat.beq j k with
        | false => rfl
        | true => exact absurd (Nat.eq_of_beq_eq_true hb) hjk
      have hDj' : D j = true := by simpa [hb] using hDj
      exact I.newro j hj hDj' i he h1 h2 hh
  · rw [hsw b (by have := I.size; omega)]; exact I.same b hb
  · rw [put_defers]; exact I.defers
  · rw [put_tmps (ht o (mem_of_nth ho))]
    exact I.keep t ht

theorem Reg.step (S : Steps E ops n Fs Hs ps) (I : Reg E ops n Fs Hs ps φs w0 df tm0 D φ a w) {k : Nat} (hk : k < n) (hDk : D k = false) {o : Oper} (ho : nth ops.toList k = some o) (hm : MayGo ops n D k o)
    {Q : Exit → Act → World → Prop} {next : Act → World → Prop} (hn : ∀ φ' a' w', Reg E ops n Fs Hs ps φs w0 df tm0 (fun j => D j || Nat.beq j k) φ' a' w' → next a' w') : wpOp E.P ops Q k next a w := by
  obtain ⟨o', ho', hst⟩ := S.step k hk
  rw [ho] at ho'; cases ho'
  have hF : RF (φ.take (Hs k).length) (maskF (looks ops o) 0 (Fs k)) a.tmps := by
    refine ⟨by rw [maskF_length, I.tm, S.fs (k := k) (by omega), FD_length], fun t av ht => ?_⟩
    obtain ⟨ht1, ht2⟩ := nth_maskF _ _ _ _ _ ht
    rw [Nat.zero_add] at ht1
    have hrd := hm.reads t ht1
    refine I.fr t k av (by omega) (fun j hj hDj hjd => ?_) ?_
    · have := hrd j hj hjd
      rw [hDj] at this
      simpa using this.symm
    · rw [← ht2, S.fs (k := k) (by omega), ← FD_below k (n - k), show k + (n - k) = n from by omega]
      exact FD_congr n fun j hj hjd => hrd j hj hjd
  have hgo : ∀ go, GoIs ops (Fs k) o.guard go → Region.wanted o (yielded ops a.tmps) = go := fun go hg => by
    refine GoIs.wanted (F := maskF (looks ops o) 0 (Fs k)) ?_ hF
    unfold GoIs at hg ⊢
    split at hg
    · rename_i hgd; simpa [hgd] using hg
    · rename_i j want hgd
      obtain ⟨t, ht, h⟩ := hg
      have hin : t ∈ looks ops o := by
        unfold looks
        rw [hgd]
        simp [ht]
      refine ⟨t, ht, ?_⟩
      rcases h with ⟨b, hb, hw⟩ | ⟨hb, hw⟩
      · exact .inl ⟨b, nth_maskF_in _ _ _ _ _ (by rwa [Nat.zero_add]) hb, hw⟩
      · exact .inr ⟨nth_maskF_in _ _ _ _ _ (by rwa [Nat.zero_add]) hb, hw⟩
  have hrh := (I.rh k (by omega)).roAll
  have hbase : Inv (φ.take (Hs k).length) (roAll E (Hs k)) w (φ.take (Hs k).length) (roAll E (Hs k)) w := Inv.refl hrh
  unfold wpOp
  rw [ops_at ho]
  simp only []
  rcases hst.did with ⟨hg, H', hop, hH⟩ | ⟨hg, hv, hH⟩
  · rw [if_pos (hgo _ hg)]
    refine .inl (hop _ _ w _ a w next Q hrh.len hbase hF fun rv φ' w' he hI hv => ?_)
    exact hn _ _ _ (I.after S hk hDk ho hst hm hI he hH hv)
  · rw [if_neg (by rw [hgo _ hg]; exact fun e => by cases e)]
    refine hn _ _ _ (I.after S hk hDk ho hst hm hbase (.refl _) ?_ ?_)
    · rw [hH, List.drop_of_length_le (by rw [roAll_length]; exact Nat.le_refl _), List.append_nil]
    · rw [hv]; exact ⟨[], rfl, trivial⟩

/-- All of them done. -/
theorem Reg.done (S : Steps E ops n Fs Hs ps) (I : Reg E ops n Fs Hs ps φs w0 df tm0 D φ a w) (hD : ∀ j, j < n → D j = true) {φ0 : List PE} {H0 : Hp E} {wb : World} (hI : Inv φ0 H0 wb φs (Hs 0) w0) :
    Inv φ0 H0 wb φ (Hs n) w ∧ RF φ (Fs n) a.tmps ∧ Ext φs φ := by
  have h0n := S.le (k := 0) (m := n) (Nat.zero_le _) (Nat.le_refl _)
  have hext : Ext φs φ := fun i pe hp => by
    left
    rw [← I.base, nth_take] at hp
    split at hp
    · exact hp
    · cases hp
  have htn : φ.take (Hs n).length = φ := List.take_of_length_le (by rw [I.len]; exact Nat.le_refl _)
  have hrh := I.rh n (Nat.le_refl _)
  rw [htn] at hrh
  have hnew : ∀ i he, (Hs 0).length ≤ i → nth (Hs n) i = some (some he) → he.ro = false := fun i he hi hh => by
    have key : ∀ m, m ≤ n → i < (Hs m).length → ∃ j, j < m ∧ (Hs j).length ≤ i ∧ i < (Hs (j + 1)).length := by
      intro m
      induction m with
      | zero => intro _ h; omega
      | succ m ih =>
        intro hm h
        rcases Nat.lt_or_ge i (Hs m).length with h1 | h1
        · obtain ⟨j, h2, h3⟩ := ih (by omega) h1
          exact ⟨j, by omega, h3⟩
        · exact ⟨m, by omega, h1, h⟩
    obtain ⟨j, hj, h1, h2⟩ := key n (Nat.le_refl _) (nth_lt hh)
    exact I.newro j hj (hD j hj) i he h1 h2 hh
  have hnth : ∀ i, i < (Hs 0).length → nth (Hs n) i = nth (Hs 0) i := fun i hi => S.nth (Nat.zero_le _) (Nat.le_refl _) hi
  refine ⟨⟨hrh, hI.base.trans hext, by have := hI.hle; omega, fun i he h1 h2 => ?_, fun i he h1 h2 => ?_, fun i he h1 h2 => ?_, fun i L h1 h2 => ?_, hI.calm.trans I.calm, by have := hI.size; have := I.size; omega, fun b hb => ?_⟩, ?_, hext⟩
  · have := hI.rosame i he h1 h2
    rw [hnth i (nth_lt this)]; exact this
  · rw [hnth i (by have := hI.hle; omega)] at h2
    exact hI.robase i he h1 h2
  · rcases Nat.lt_or_ge i (Hs 0).length with h3 | h3
    · rw [hnth i h3] at h2; exact hI.newro i he h1 h2
    · exact hnew i he h3 h2
  · rcases Nat.lt_or_ge i (Hs 0).length with h3 | h3
    · have h4 : nth φs i = some (.at L) := by rw [← I.base, nth_take, if_pos h3]; exact h2
      exact hI.fresh i L h1 h4
    · left
      have := I.fresh i L h3 h2
      have := hI.size
      omega
  · have hb2 : b < wb.heap.size := by
      rcases Nat.lt_or_ge b wb.heap.size with h | h
      · exact h
      · exact absurd (.inl h) hb
    rw [I.same b (by have := hI.size; omega)]
    exact hI.same b hb
  · refine ⟨by rw [S.fs (Nat.le_refl _), FD_length, I.tm], fun t av ht => ?_⟩
    rw [S.fs (Nat.le_refl _), FD_ext (D' := D) n (fun j hj => (hD j hj).symm)] at ht
    obtain ⟨v, h1, h2⟩ := I.fr t n av (Nat.le_refl _) (fun j hj _ _ => hj) ht
    rw [htn] at h2
    exact ⟨v, h1, h2⟩
end
end Go.Eng
