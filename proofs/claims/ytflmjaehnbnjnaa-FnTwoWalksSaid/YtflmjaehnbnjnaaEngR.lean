import Derived.Test.YtflmjaehnbnjnaaEngQ
set_option linter.all false
namespace Go.Eng
open Go Go.RowKit
set_option linter.all false

def RZ (p : Nat → Bool) (φ φ' : List PE) : Prop := ∀ i pe, p i = true → nth φ i = some pe → pe = .abs ∨ nth φ' i = some pe ∨ nth φ' i = some .dead

section
variable {E : Env}

theorem RP.z {p : Nat → Bool} {φ φ' : List PE} (e : RZ p φ φ') {id row fld : Nat} (hp : p id = true) {v : Value} (h : RP φ id row fld v) : RP φ' id row fld v := by
  refine ⟨h.1, ?_⟩
  have h2 := h.2
  cases hq : nth φ id with
  | none => rw [hq] at h2; exact h2.elim
  | some pe =>
    rw [hq] at h2
    rcases e id pe hp hq with rfl | h3 | h3
    · exact h2.elim
    · rw [h3]; exact h2
    · rw [h3]; trivial
theorem capsZ {p : Nat → Bool} {φ φ' : List PE} (e : RZ p φ φ') : ∀ {caps : List (Nat × Nat × Nat)} {cv : List Value}, caps.all (fun c => p c.1) = true → All2 (fun c v => RP φ c.1 c.2.1 c.2.2 v) caps cv → All2 (fun c v => RP φ' c.1 c.2.1 c.2.2 v) caps cv
  | [], [], _, _ => trivial
  | c :: caps, v :: cv, hp, h => by
    simp only [List.all_cons, Bool.and_eq_true] at hp
    exact ⟨RP.z e hp.1 h.1, capsZ e hp.2 h.2⟩
  | [], _ :: _, _, h => h.elim
  | _ :: _, [], _, h => h.elim
theorem RS.z {p : Nat → Bool} {φ φ' : List PE} (e : RZ p φ φ') {s : SV} (hp : idsOk p s = true) {v : Value} (h : RS φ s v) : RS φ' s v := by
  cases s with
  | ptr id row fld => exact RP.z e hp h
  | slc id w nl =>
    refine ⟨h.1, ?_⟩
    have h2 := h.2
    cases hq : nth φ id with
    | none => rw [hq] at h2; exact h2.elim
    | some pe =>
      rw [hq] at h2
      rcases e id pe hp hq with rfl | h3 | h3
      · exact h2.elim
      · rw [h3]; exact h2
      · rw [h3]; trivial
  | fn f caps =>
    obtain ⟨cv, hv, h⟩ := h
    exact ⟨cv, hv, capsZ e hp h⟩
  | _ => exact h
theorem all2_z {p : Nat → Bool} {φ φ' : List PE} (e : RZ p φ φ') : ∀ {l : List SV} {vs : List Value}, (∀ s ∈ l, idsOk p s = true) → All2 (RS φ) l vs → All2 (RS φ') l vs
  | [], [], _, _ => trivial
  | _ :: _, _ :: _, hp, h => ⟨RS.z e (hp _ List.mem_cons_self) h.1, all2_z e (fun s hs => hp s (List.mem_cons_of_mem _ hs)) h.2⟩
  | [], _ :: _, _, h => h.elim
  | _ :: _, [], _, h => h.elim
theorem RC.z {p : Nat → Bool} {φ φ' : List PE} (e : RZ p φ φ') {s : Bool × List SV} (hp : ∀ x ∈ s.2, idsOk p x = true) {v : Value} (h : RC φ s v) : RC φ' s v := by
  obtain ⟨b, l⟩ := s
  cases b with
  | true => obtain ⟨cs, hv, h⟩ := h; exact ⟨cs, hv, all2_z e hp h⟩
  | false => obtain ⟨s, hs, h⟩ := h; exact ⟨s, hs, RS.z e (hp s (by simp only at hs; rw [hs]; simp)) h⟩
theorem tupZ {p : Nat → Bool} {φ φ' : List PE} (e : RZ p φ φ') : ∀ {l : List (Bool × List SV)} {cs : List Value}, (∀ c ∈ l, ∀ x ∈ c.2, idsOk p x = true) → All2 (RC φ) l cs → All2 (RC φ') l cs
  | [], [], _, _ => trivial
  | c :: l, v :: cs, hp, h => ⟨RC.z e (hp c List.mem_cons_self) h.1, tupZ e (fun c hc => hp c (List.mem_cons_of_mem _ hc)) h.2⟩
  | [], _ :: _, _, h => h.elim
  | _ :: _, [], _, h => h.elim
theorem RA.z {p : Nat → Bool} {φ φ' : List PE} (e : RZ p φ φ') {s : AV} (hp : ∀ x ∈ cellsOf s, idsOk p x = true) {v : Value} (h : RA φ s v) : RA φ' s v := by
  cases s with
  | sc s => exact RS.z e (hp s (by simp [cellsOf])) h
  | agg l => obtain ⟨cs, hv, h⟩ := h; exact ⟨cs, hv, all2_z e hp h⟩
  | tup l =>
    obtain ⟨cs, hv, h⟩ := h
    exact ⟨cs, hv, tupZ e (fun c hc x hx => hp x (List.mem_flatMap.2 ⟨c, hc, hx⟩)) h⟩

theorem idsOk_all (s : SV) : idsOk (fun _ => true) s = true := by
  cases s <;> first | rfl | exact List.all_eq_true.2 fun _ _ => rfl
theorem heOk_all (x : Option (HE E)) : heOk E (fun _ => true) x = true := by
  cases x with
  | none => rfl
  | some he =>
    obtain ⟨ro, b⟩ := he
    cases b with
    | exp t l => exact List.all_eq_true.2 fun s _ => idsOk_all s
    | rows b => rfl
    | frz b => rfl

theorem RB.z (ok : EnvOk E) {p : Nat → Bool} {φ φ' : List PE} (e : RZ p φ φ') {he : HE E} (hp : heOk E p (some he) = true) {L : Loc} {w w' : World} (h : RB φ he L w) (hw : w'.heap[L.b]? = w.heap[L.b]?) : RB φ' he L w' := by
  obtain ⟨⟨c, t, fz, h1, h2, h3, h4⟩, h5⟩ := h
  refine ⟨⟨c, t, fz, hw ▸ h1, h2, fun j s hs => ?_, h4⟩, h5⟩
  obtain ⟨v, hv, hr⟩ := h3 j s hs
  refine ⟨v, hv, ?_⟩
  obtain ⟨ro, b⟩ := he
  cases b with
  | exp t l => exact RS.z e (List.all_eq_true.1 hp s (nth_mem hs)) hr
  | rows b => exact hr.plain (ok.plain b s (nth_mem hs))
  | frz b => exact hr.plain (ok.plain b s (nth_mem hs))

theorem Ent.z (ok : EnvOk E) {p : Nat → Bool} {φ φ' : List PE} (e : RZ p φ φ') {w w' : World} {pe : PE} {x : Option (HE E)} (hp : heOk E p x = true) (h : Ent φ w pe x) (hw : ∀ L, pe = .at L → w'.heap[L.b]? = w.heap[L.b]?) : Ent φ' w' pe x := by
  cases pe with
  | dead => cases x <;> exact h
  | virt => cases x <;> exact h
  | abs => cases x <;> exact h
  | «at» L =>
    cases x with
    | none => exact h
    | some he => exact RB.z ok e hp h (hw L rfl)

theorem Ent.weak {φ : List PE} {w : World} {pe : PE} {he : HE E} (h : Ent φ w pe (some he)) (b : Bool) : Ent φ w pe (some ⟨cond b he.ro true, he.b⟩) := by
  cases b with
  | true => exact h
  | false =>
    cases pe with
    | dead => exact h
    | virt => exact h
    | abs => exact h
    | «at» L =>
      obtain ⟨⟨c, t, fz, h1, h2, h3, h4⟩, h5⟩ := h
      exact ⟨⟨c, t, fz, h1, h2, h3, fun e => by cases e⟩, h5⟩

theorem nthM {α : Type} (f : Nat → α) (n i : Nat) : nth ((List.range n).map f) i = if i < n then some (f i) else none := by
  rw [nth_map, nth_eq]
  split
  · rename_i h; rw [List.getElem?_range h]; rfl
  · rename_i h; rw [List.getElem?_eq_none (by simp; omega)]; rfl

section
variable {ops : Array Oper} {n : Nat} {Fs : Nat → Fr} {Hs : Nat → Hp E} {ps : Nat → AV} {Vs wrs : Nat → Nat → Bool} {φs : List PE} {w0 : World} {df : List Deferred} {tm0 : Array Value} {D : Nat → Bool} {φ : List PE} {a : Act} {w : World}

theorem dstOf_of {k : Nat} {o : Oper} (h : nth ops.toList k = some o) : dstOf ops k = o.dst := by unfold dstOf; rw [h]; rfl
theorem ops_at {k : Nat} {o : Oper} (h : nth ops.toList k = some o) : ops[k]? = some o := by rw [nth_eq] at h; simpa using h
theorem mem_of_nth {α : Type} {l : List α} {k : Nat} {x : α} (h : nth l k = some x) : x ∈ l := by
  rw [nth_eq] at h
  exact List.mem_of_getElem? h

structure MayGo (ops : Array Oper) (n : Nat) (D : Nat → Bool) (k : Nat) (o : Oper) : Prop where
  reads : ∀ t, t ∈ looks ops o → ∀ j, j < n → dstOf ops j = some t → D j = decide (j < k)
  writes : ∀ d, o.dst = some d → ∀ j, j < n → dstOf ops j = some d → D j = decide (j < k)

structure Steps (E : Env) (ops : Array Oper) (n : Nat) (Fs : Nat → Fr) (Hs : Nat → Hp E) (ps : Nat → AV) (Vs wrs : Nat → Nat → Bool) : Prop where
  step : ∀ k, k < n → ∃ o, nth ops.toList k = some o ∧ DStep E ops o (Fs k) (Hs k) (ps k) (Vs k) (wrs k) (Fs (k + 1)) (Hs (k + 1))
  apart : ∀ j k, j < k → k < n → Apart (Hs j) (Hs (j + 1)) (Vs j) (wrs j) (Vs k) (wrs k) ∨ Before ops j k

abbrev Wr (Vs wrs : Nat → Nat → Bool) (k b : Nat) : Bool := wrs k b && Vs k b
def Cre (Hs : Nat → Hp E) (k b : Nat) : Prop := (Hs k).length ≤ b ∧ b < (Hs (k + 1)).length

theorem Steps.grow (S : Steps E ops n Fs Hs ps Vs wrs) {k : Nat} (hk : k < n) : (Hs k).length ≤ (Hs (k + 1)).length := by
  obtain ⟨o, _, h⟩ := S.step k hk
  exact h.grow
theorem Steps.le (S : Steps E ops n Fs Hs ps Vs wrs) {k m : Nat} (hk : k ≤ m) (hm : m ≤ n) : (Hs k).length ≤ (Hs m).length := by
  induction m with
  | zero => have : k = 0 := by omega
            subst this; exact Nat.le_refl _
  | succ m ih =>
    by_cases h : k = m + 1
    · subst h; exact Nat.le_refl _
    · exact Nat.le_trans (ih (by omega) (by omega)) (S.grow (by omega))
theorem Steps.keep1 (S : Steps E ops n Fs Hs ps Vs wrs) {k i : Nat} (hk : k < n) (hi : i < (Hs k).length) (hw : Wr Vs wrs k i = false) : nth (Hs (k + 1)) i = nth (Hs k) i := by
  obtain ⟨o, _, h⟩ := S.step k hk
  rcases h.did with ⟨_, M, H', _, _, _, h1, _⟩ | ⟨_, _, h1, _⟩ | ⟨_, _, h1, _⟩
  · rw [h1, if_pos ⟨hi, hw⟩]
  · rw [h1]
  · rw [h1]
theorem Steps.keep (S : Steps E ops n Fs Hs ps Vs wrs) {k m i : Nat} (hk : k ≤ m) (hm : m ≤ n) (hi : i < (Hs k).length) (hw : ∀ j, k ≤ j → j < m → Wr Vs wrs j i = false) : nth (Hs m) i = nth (Hs k) i := by
  induction m with
  | zero => have : k = 0 := by omega
            subst this; rfl
  | succ m ih =>
    by_cases h : k = m + 1
    · subst h; rfl
    · rw [S.keep1 (k := m) (by omega) (by have := S.le (k := k) (m := m) (by omega) (by omega); omega) (hw m (by omega) (by omega))]
      exact ih (by omega) (by omega) fun j h1 h2 => hw j h1 (by omega)
theorem Steps.fs (S : Steps E ops n Fs Hs ps Vs wrs) {k : Nat} (hk : k ≤ n) : Fs k = FD ops (Fs 0) ps (fun _ => true) k := by
  induction k with
  | zero => rfl
  | succ k ih =>
    obtain ⟨o, ho, h⟩ := S.step k (by omega)
    rw [h.put, ih (by omega)]
    have : dstOf ops k = o.dst := by unfold dstOf; rw [ho]; rfl
    simp only [FD, cond_true, this]

structure Cur (n : Nat) (Hs : Nat → Hp E) (Vs wrs : Nat → Nat → Bool) (D : Nat → Bool) (m b : Nat) : Prop where
  wr : ∀ j, j < n → Wr Vs wrs j b = true → D j = decide (j < m)
  cre : ∀ j, j < n → Cre Hs j b → D j = true

structure Reg (E : Env) (ops : Array Oper) (n : Nat) (Fs : Nat → Fr) (Hs : Nat → Hp E) (ps : Nat → AV) (Vs wrs : Nat → Nat → Bool) (φs : List PE) (w0 : World) (df : List Deferred) (tm0 : Array Value) (D : Nat → Bool) (φ : List PE) (a : Act) (w : World) : Prop where
  len : φ.length = (Hs n).length
  slen : φs.length = (Hs 0).length
  ent : ∀ m, m ≤ n → ∀ i x pe, Cur n Hs Vs wrs D m i → nth (Hs m) i = some x → nth φ i = some pe → Ent (φ.take (Hs m).length) w pe x
  inj : ∀ i j L L' m he, i ≠ j → nth φ i = some (.at L) → nth φ j = some (.at L') → m ≤ n → Cur n Hs Vs wrs D m i → nth (Hs m) i = some (some he) → he.ro = false → L.b ≠ L'.b
  tm : a.tmps.size = (Fs 0).length
  fr : ∀ t m av, m ≤ n → (∀ j, j < n → D j = true → dstOf ops j = some t → j < m) → nth (FD ops (Fs 0) ps D n) t = some (some av) → ∃ v, a.tmps[t]? = some v ∧ RA (φ.take (Hs m).length) av v
  base : Ext φs φ
  pend : ∀ k, k < n → D k = false → ∀ i, Cre Hs k i → nth φ i = some .abs ∨ (nth φ i = some .dead ∧ nth (Hs (k + 1)) i = some none)
  fresh : ∀ i L, (Hs 0).length ≤ i → nth φ i = some (.at L) → WB φs (Hs 0) w0 L.b
  newro : ∀ m i he, m ≤ n → (Hs 0).length ≤ i → Cur n Hs Vs wrs D m i → nth (Hs m) i = some (some he) → he.ro = false
  rob : ∀ m i he, m ≤ n → i < (Hs 0).length → Cur n Hs Vs wrs D m i → nth (Hs m) i = some (some he) → ∃ he0, nth (Hs 0) i = some (some he0) ∧ he0.ro = he.ro
  rosame : ∀ m i he, m ≤ n → Cur n Hs Vs wrs D m i → nth (Hs 0) i = some (some he) → he.ro = true → nth (Hs m) i = some (some he)
  calm : Calm w0 w
  size : w0.heap.size ≤ w.heap.size
  same : ∀ b, ¬ WB φs (Hs 0) w0 b → w.heap[b]? = w0.heap[b]?
  defers : a.defers = df
  keep : ∀ t, (∀ o ∈ ops.toList, o.dst ≠ some t) → a.tmps[t]? = tm0[t]?
  real : ∀ i L, nth φ i = some (.at L) → L.b < w.heap.size

theorem Reg.wb (S : Steps E ops n Fs Hs ps Vs wrs) (I : Reg E ops n Fs Hs ps Vs wrs φs w0 df tm0 D φ a w) {i m : Nat} {L : Loc} {he : HE E} (hm : m ≤ n) (hi : nth φ i = some (.at L)) (hc : Cur n Hs Vs wrs D m i) (hh : nth (Hs m) i = some (some he)) (hro : he.ro = false) : WB φs (Hs 0) w0 L.b := by
  rcases Nat.lt_or_ge i (Hs 0).length with h1 | h1
  · obtain ⟨he0, h2, h3⟩ := I.rob m i he hm h1 hc hh
    obtain ⟨pe, hpe⟩ := nth_some (l := φs) (n := i) (by rw [I.slen]; exact h1)
    rcases I.base i pe hpe with h4 | h4
    · rw [hi] at h4; cases h4
      exact .inr ⟨i, L, he0, hpe, rfl, h2, h3.trans hro⟩
    · rw [hi] at h4; cases h4
  · exact I.fresh i L h1 hi

theorem Reg.cur (S : Steps E ops n Fs Hs ps Vs wrs) {k : Nat} (hk : k < n) (hDk : D k = false) (hrd : ∀ j, Before ops j k → D j = true) (hcl : ∀ j m, Before ops j m → D m = true → D j = true) {i : Nat} (hi : Vs k i = true) : Cur n Hs Vs wrs D k i := by
  have hlt : i < (Hs k).length := by
    obtain ⟨o, _, h⟩ := S.step k hk
    exact h.vle i hi
  refine ⟨fun j hj hw => ?_, fun j hj hc => ?_⟩
  · rcases Nat.lt_trichotomy j k with h1 | h1 | h1
    · rcases S.apart j k h1 hk with h2 | h2
      · exact absurd (.inl hw) (h2 i hi).1
      · rw [hrd j h2]; simp [h1]
    · subst h1; rw [hDk]; simp
    · have : D j = false := by
        cases hd : D j with
        | false => rfl
        | true =>
          rcases S.apart k j h1 hj with h2 | h2
          · simp only [Bool.and_eq_true] at hw
            have := (h2 i hw.2).2 hw.1
            rw [hi] at this; cases this
          · have := hcl k j h2 hd
            rw [hDk] at this; cases this
      rw [this]; simp; omega
  · have hjk : j < k := by
      rcases Nat.lt_or_ge j k with h1 | h1
      · exact h1
      · have := S.le (k := k) (m := j) h1 (by omega)
        have := hc.1
        omega
    rcases S.apart j k hjk hk with h2 | h2
    · exact absurd (.inr hc) (h2 i hi).1
    · exact hrd j h2

theorem Reg.after (ok : EnvOk E) (S : Steps E ops n Fs Hs ps Vs wrs) (I : Reg E ops n Fs Hs ps Vs wrs φs w0 df tm0 D φ a w) {k : Nat} (hk : k < n) (hDk : D k = false) (hrd : ∀ j, Before ops j k → D j = true) (hcl : ∀ j m, Before ops j m → D m = true → D j = true)
    {o : Oper} (ho : nth ops.toList k = some o) (hput : Fs (k + 1) = putF (Fs k) o.dst (ps k)) (hroom : ∀ d, o.dst = some d → d < (Fs k).length) (hm : MayGo ops n D k o) {M H' : Hp E} {φk φ' : List PE} {w' : World} {rv : Value}
    (hM : ∀ i, nth M i = (nth (Hs k) i).map fun x => cond (Vs k i) (x.map fun he => ⟨cond (wrs k i) he.ro true, he.b⟩) none)
    (hφk : ∀ i, nth φk i = if i < (Hs k).length then some (cond (Vs k i) ((nth φ i).getD .dead) .dead) else none)
    (hI : Inv φk M w φ' H' w') (hx : Ext φk φ') (hv : RA φ' (ps k) rv) (hlen1 : (Hs (k + 1)).length = H'.length) (hH1 : ∀ i, nth (Hs (k + 1)) i = if i < (Hs k).length ∧ Wr Vs wrs k i = false then nth (Hs k) i else nth H' i)
    (hvok : ∀ s ∈ cellsOf (ps k), idsOk (pIn (Vs k) (Hs k).length) s = true) (heok : ∀ i x, nth H' i = some x → (Wr Vs wrs k i = true ∨ (Hs k).length ≤ i) → heOk E (pIn (Vs k) (Hs k).length) x = true) :
    ∃ φn, Reg E ops n Fs Hs ps Vs wrs φs w0 df tm0 (fun j => D j || Nat.beq j k) φn (a.put o.dst rv) w' := by
  have hlk : (Hs k).length ≤ (Hs n).length := S.le (by omega) (Nat.le_refl _)
  have hl1 : (Hs k).length ≤ (Hs (k + 1)).length := S.grow hk
  have hlk1 : (Hs (k + 1)).length ≤ (Hs n).length := S.le (by omega) (Nat.le_refl _)
  have hMlen : M.length = (Hs k).length := by
    rcases Nat.lt_trichotomy M.length (Hs k).length with h | h | h
    · obtain ⟨x, hx⟩ := nth_some h
      have h1 := hM M.length
      rw [hx, nth_none (Nat.le_refl _)] at h1; cases h1
    · exact h
    · obtain ⟨x, hx⟩ := nth_some h
      have h1 := hM (Hs k).length
      rw [hx, nth_none (Nat.le_refl _)] at h1; cases h1
  have hφklen : φk.length = (Hs k).length := by
    rcases Nat.lt_trichotomy φk.length (Hs k).length with h | h | h
    · have h1 := hφk φk.length
      rw [if_pos h, nth_none (Nat.le_refl _)] at h1; cases h1
    · exact h
    · obtain ⟨x, hx⟩ := nth_some h
      have h1 := hφk (Hs k).length
      rw [hx, if_neg (by omega)] at h1; cases h1
  have hφ'len : φ'.length = H'.length := hI.rh.len
  have vle : ∀ b, Vs k b = true → b < (Hs k).length := by
    obtain ⟨o', _, h⟩ := S.step k hk
    exact h.vle
  have hcurk : ∀ i, Vs k i = true → Cur n Hs Vs wrs D k i := fun i hi => Reg.cur S hk hDk hrd hcl hi
  -- the new placing
  obtain ⟨φn, hφn⟩ : ∃ φn : List PE, ∀ i, nth φn i = if i < (Hs n).length then some (if i < (Hs k).length then (cond (Wr Vs wrs k i) ((nth φ' i).getD .dead) ((nth φ i).getD .dead)) else if i < (Hs (k + 1)).length then (nth φ' i).getD .dead else (nth φ i).getD .dead) else none :=
    ⟨(List.range (Hs n).length).map _, fun i => nthM _ _ i⟩
  have hφnlen : φn.length = (Hs n).length := by
    rcases Nat.lt_trichotomy φn.length (Hs n).length with h | h | h
    · have h1 := hφn φn.length
      rw [if_pos h, nth_none (Nat.le_refl _)] at h1; cases h1
    · exact h
    · obtain ⟨x, hx⟩ := nth_some h
      have h1 := hφn (Hs n).length
      rw [hx, if_neg (by omega)] at h1; cases h1
  have hφat : ∀ i, i < (Hs n).length → ∃ pe, nth φ i = some pe := fun i hi => nth_some (by rw [I.len]; exact hi)
  have hφ'at : ∀ i, i < (Hs (k + 1)).length → ∃ pe, nth φ' i = some pe := fun i hi => nth_some (by rw [hφ'len, ← hlen1]; exact hi)
  -- three kinds of blocks
  have nA : ∀ i, Wr Vs wrs k i = true → nth φn i = nth φ' i := fun i hw => by
    simp only [Wr, Bool.and_eq_true] at hw
    have hi := vle i hw.2
    obtain ⟨pe, hpe⟩ := hφ'at i (by omega)
    have hw' : Wr Vs wrs k i = true := by simp [Wr, hw]
    rw [hφn, if_pos (by omega), if_pos hi, hw', hpe]; rfl
  have nB : ∀ i, Cre Hs k i → nth φn i = nth φ' i := fun i hc => by
    have h1 := hc.1; have h2 := hc.2
    obtain ⟨pe, hpe⟩ := hφ'at i h2
    rw [hφn, if_pos (by omega), if_neg (by omega), if_pos h2, hpe]; rfl
  have nC : ∀ i, Wr Vs wrs k i = false → ¬ Cre Hs k i → nth φn i = nth φ i := fun i hw hc => by
    rw [hφn]
    by_cases hi : i < (Hs n).length
    · obtain ⟨pe, hpe⟩ := hφat i hi
      rw [if_pos hi, hw, hpe]
      by_cases h1 : i < (Hs k).length
      · rw [if_pos h1]; rfl
      · rw [if_neg h1, if_neg (fun h2 => hc ⟨by omega, h2⟩)]; rfl
    · rw [if_neg hi, nth_none (by rw [I.len]; omega)]
  have tri : ∀ i, Wr Vs wrs k i = true ∨ Cre Hs k i ∨ (Wr Vs wrs k i = false ∧ ¬ Cre Hs k i) := fun i => by
    cases h : Wr Vs wrs k i with
    | true => exact .inl rfl
    | false =>
      by_cases h2 : Cre Hs k i
      · exact .inr (.inl h2)
      · exact .inr (.inr ⟨rfl, h2⟩)
  have notAB : ∀ i, Wr Vs wrs k i = true → ¬ Cre Hs k i := fun i hw hc => by
    simp only [Wr, Bool.and_eq_true] at hw
    have := vle i hw.2
    have := hc.1
    omega
  -- a block that the run saw
  have hseen : ∀ i, Vs k i = true → nth φk i = nth φ i := fun i hi => by
    have h1 := vle i hi
    obtain ⟨pe, hpe⟩ := hφat i (by omega)
    rw [hφk, if_pos h1, hi, hpe]; rfl
  have hAold : ∀ i L, Wr Vs wrs k i = true → nth φ' i = some (.at L) → nth φ i = some (.at L) := fun i L hw h => by
    simp only [Wr, Bool.and_eq_true] at hw
    obtain ⟨pe, hpe⟩ := hφat i (by have := vle i hw.2; omega)
    have h1 := hseen i hw.2
    rcases hx i pe (by rw [h1, hpe]) with h2 | h2
    · rw [h] at h2; cases h2; exact hpe
    · rw [h] at h2; cases h2
  -- a block that may be written in the run
  have hwbM : ∀ b, WB φk M w b → w.heap.size ≤ b ∨ ∃ p L0 he0, Wr Vs wrs k p = true ∧ nth φ p = some (.at L0) ∧ L0.b = b ∧ nth (Hs k) p = some (some he0) ∧ he0.ro = false := fun b hwb => by
    rcases hwb with h1 | ⟨p, L0, he0, h1, h2, h3, h4⟩
    · exact .inl h1
    · right
      rw [hM] at h3
      cases hp : nth (Hs k) p with
      | none => rw [hp] at h3; cases h3
      | some x =>
        rw [hp] at h3
        simp only [Option.map_some, Option.some.injEq] at h3
        cases hV : Vs k p with
        | false => rw [hV] at h3; cases h3
        | true =>
          rw [hV] at h3
          cases x with
          | none => cases h3
          | some he =>
            simp only [cond_true, Option.map_some, Option.some.injEq] at h3
            subst h3
            cases hw : wrs k p with
            | false => rw [hw] at h4; cases h4
            | true =>
              rw [hw] at h4
              exact ⟨p, L0, he, by simp [Wr, hw, hV], by rw [← hseen p hV]; exact h1, h2, hp, h4⟩
  have hwb0 : ∀ b, WB φk M w b → WB φs (Hs 0) w0 b := fun b hwb => by
    rcases hwbM b hwb with h1 | ⟨p, L0, he0, h1, h2, rfl, h4, h5⟩
    · left; have := I.size; omega
    · simp only [Wr, Bool.and_eq_true] at h1
      exact I.wb S (by omega) h2 (hcurk p h1.2) h4 h5
  -- the real block of one that the run did not write is as it was
  have hsameC : ∀ i L m x, m ≤ n → Wr Vs wrs k i = false → ¬ Cre Hs k i → nth φ i = some (.at L) → Cur n Hs Vs wrs D m i → nth (Hs m) i = some x → w'.heap[L.b]? = w.heap[L.b]? := fun i L m x hmn hw hc hL hcur hx0 => by
    refine hI.same L.b fun hwb => ?_
    rcases hwbM _ hwb with h1 | ⟨p, L0, he0, h1, h2, h3, h4, h5⟩
    · have := I.ent m hmn i x (.at L) hcur hx0 hL
      cases x with
      | none => exact this
      | some he => have := RB.lt this; omega
    · have hp : p ≠ i := fun e => by rw [e, hw] at h1; cases h1
      simp only [Wr, Bool.and_eq_true] at h1
      exact I.inj p i L0 L k he0 hp h2 hL (by omega) (hcurk p h1.2) h4 h5 h3
  -- from the run's placing to the new one
  have zB : ∀ m, k + 1 ≤ m → m ≤ n → RZ (pIn (Vs k) (Hs k).length) φ' (φn.take (Hs m).length) := fun m h1 h2 i pe hp hpe => by
    have hi : i < (Hs (k + 1)).length := by rw [hlen1, ← hφ'len]; exact nth_lt hpe
    have hlm := S.le h1 h2
    rw [nth_take, if_pos (by omega)]
    unfold pIn at hp
    simp only [Bool.or_eq_true] at hp
    rcases tri i with h3 | h3 | ⟨h3, h4⟩
    · rw [nA i h3]; exact .inr (.inl hpe)
    · rw [nB i h3]; exact .inr (.inl hpe)
    · rw [nC i h3 h4]
      have hV : Vs k i = true := by
        rcases hp with hp | hp
        · exact hp
        · exact absurd ⟨Nat.le_of_ble_eq_true hp, hi⟩ h4
      obtain ⟨pe0, hpe0⟩ := hφat i (by omega)
      rcases hx i pe0 (by rw [hseen i hV, hpe0]) with h5 | h5
      · rw [hpe] at h5; cases h5; exact .inr (.inl hpe0)
      · rw [hpe] at h5; cases h5
        -- dead in the run: nothing is there
        have hlt := vle i hV
        obtain ⟨x, hxx⟩ := nth_some (l := Hs k) (n := i) hlt
        have hent := I.ent k (by omega) i x pe0 (hcurk i hV) hxx hpe0
        cases x with
        | none => cases pe0 <;> first | exact .inr (.inr hpe0) | exact hent.elim
        | some he =>
          have hwr : wrs k i = false := by simpa [Wr, hV] using h3
          have hMi : nth M i = some (some ⟨true, he.b⟩) := by rw [hM, hxx, hV, hwr]; rfl
          have := hI.rosame i _ hMi rfl
          exact (hI.rh.ent i _ _ hpe this).elim
  have zC : ∀ m, m ≤ n → RZ (fun _ => true) (φ.take (Hs m).length) (φn.take (Hs m).length) := fun m h2 i pe _ hpe => by
    rw [nth_take] at hpe ⊢
    split at hpe
    · rename_i him
      rw [if_pos him]
      rcases tri i with h3 | h3 | ⟨h3, h4⟩
      · rw [nA i h3]
        simp only [Wr, Bool.and_eq_true] at h3
        rcases hx i pe (by rw [hseen i h3.2, hpe]) with h5 | h5
        · exact .inr (.inl h5)
        · exact .inr (.inr h5)
      · rcases I.pend k hk hDk i h3 with h5 | ⟨h5, h6⟩
        · rw [hpe] at h5; cases h5; exact .inl rfl
        · rw [nB i h3]
          right; right
          rw [hH1, if_neg (fun e => by have := e.1; have := h3.1; omega)] at h6
          obtain ⟨pe', hpe'⟩ := hφ'at i h3.2
          have := hI.rh.ent i pe' none hpe' h6
          cases pe' <;> first | exact hpe' | exact this.elim
      · rw [nC i h3 h4]; exact .inr (.inl hpe)
    · cases hpe
  -- whose turn: 'D' behind number 'k'
  have hD' : ∀ j, j ≠ k → (D j || Nat.beq j k) = D j := fun j hj => by
    have : Nat.beq j k = false := by
      cases hb : Nat.beq j k with
      | false => rfl
      | true => exact absurd (Nat.eq_of_beq_eq_true hb) hj
    rw [this, Bool.or_false]
  have hDkk : (D k || Nat.beq k k) = true := by rw [Nat.beq_refl, Bool.or_true]
  -- the last that wrote block 'i' ahead of 'm' is number 'k'
  have lastA : ∀ m i, m ≤ n → (Wr Vs wrs k i = true ∨ Cre Hs k i) → Cur n Hs Vs wrs (fun j => D j || Nat.beq j k) m i → k < m → nth (Hs m) i = nth H' i := fun m i hmn hik hcur hkm => by
    have hi1 : i < (Hs (k + 1)).length := by
      rcases hik with h | h
      · simp only [Wr, Bool.and_eq_true] at h; have := vle i h.2; omega
      · exact h.2
    rw [S.keep (k := k + 1) (m := m) (by omega) hmn hi1 (fun j hj1 hj2 => ?_), hH1]
    · rw [if_neg]
      rintro ⟨e1, e2⟩
      rcases hik with h | h
      · rw [h] at e2; cases e2
      · have := h.1; omega
    · cases hw : Wr Vs wrs j i with
      | false => rfl
      | true =>
        exfalso
        have h1 := hcur.wr j (by omega) hw
        rw [hD' j (by omega), decide_eq_true hj2] at h1
        have hVj : Vs j i = true := by simp only [Wr, Bool.and_eq_true] at hw; exact hw.2
        rcases S.apart k j (by omega) (by omega) with h2 | h2
        · exact (h2 i hVj).1 (hik.imp id id)
        · have := hcl k j h2 h1
          rw [hDk] at this; cases this
  have kltA : ∀ m i, Wr Vs wrs k i = true → Cur n Hs Vs wrs (fun j => D j || Nat.beq j k) m i → k < m := fun m i hw hcur => by
    have := hcur.wr k hk hw
    rw [hDkk] at this
    simpa using this.symm
  have kltB : ∀ m i x, Cre Hs k i → m ≤ n → nth (Hs m) i = some x → k < m := fun m i x hc hmn hx0 => by
    rcases Nat.lt_or_ge k m with h | h
    · exact h
    · have := S.le (k := m) (m := k) h (by omega)
      have := nth_lt hx0
      have := hc.1
      omega
  have curC : ∀ m i, Wr Vs wrs k i = false → ¬ Cre Hs k i → Cur n Hs Vs wrs (fun j => D j || Nat.beq j k) m i → Cur n Hs Vs wrs D m i := fun m i hw hc hcur => by
    refine ⟨fun j hj hwj => ?_, fun j hj hcj => ?_⟩
    · have hjk : j ≠ k := fun e => by rw [e, hw] at hwj; cases hwj
      rw [← hD' j hjk]; exact hcur.wr j hj hwj
    · have hjk : j ≠ k := fun e => hc (by rw [← e]; exact hcj)
      rw [← hD' j hjk]; exact hcur.cre j hj hcj
  have masked : ∀ i he, Wr Vs wrs k i = true → nth (Hs k) i = some (some he) → nth M i = some (some he) := fun i he hw h => by
    simp only [Wr, Bool.and_eq_true] at hw
    rw [hM, h, hw.1, hw.2]; rfl
  have robA : ∀ i he, Wr Vs wrs k i = true → nth H' i = some (some he) → ∃ he0, nth (Hs k) i = some (some he0) ∧ he0.ro = he.ro := fun i he hw h => by
    simp only [Wr, Bool.and_eq_true] at hw
    obtain ⟨he0, h1, h2⟩ := hI.robase i he (by rw [hMlen]; exact vle i hw.2) h
    rw [hM, hw.1, hw.2] at h1
    cases hp : nth (Hs k) i with
    | none => rw [hp] at h1; cases h1
    | some x =>
      rw [hp] at h1
      cases x with
      | none => cases h1
      | some he1 =>
        simp only [Option.map_some, cond_true, Option.some.injEq] at h1
        subst h1
        exact ⟨he1, rfl, h2⟩
  have hroC : ∀ i L, nth φn i = some (.at L) → ¬ Cre Hs k i → nth φ i = some (.at L) := fun i L hL hc => by
    rcases tri i with h3 | h3 | ⟨h3, h4⟩
    · rw [nA i h3] at hL; exact hAold i L h3 hL
    · exact absurd h3 hc
    · rw [nC i h3 h4] at hL; exact hL
  -- a new block against one that was there
  have newOld : ∀ i j L L', Cre Hs k i → ¬ Cre Hs k j → nth φn i = some (.at L) → nth φn j = some (.at L') → L.b ≠ L'.b := fun i j L L' hci hcj hi hj => by
    rw [nB i hci] at hi
    have hjo := hroC j L' hj hcj
    obtain ⟨hei, hhi, _⟩ := hI.rh.at_ hi
    have hnro := hI.newro i hei (by rw [hMlen]; exact hci.1) hhi
    rcases hwbM _ (hI.fresh i L (by rw [hMlen]; exact hci.1) hi) with h1 | ⟨p, L0, he0, h1, h2, h3, h4, h5⟩
    · -- fresh: the other one is older
      intro e
      have := I.real j L' hjo
      omega
    · by_cases hpj : p = j
      · subst hpj
        rw [nA p h1] at hj
        exact hI.rh.inj i p L L' hei (fun e => by subst e; exact hcj hci) hi hj hhi hnro
      · simp only [Wr, Bool.and_eq_true] at h1
        rw [← h3]
        exact I.inj p j L0 L' k he0 hpj h2 hjo (by omega) (hcurk p h1.2) h4 h5
  have hdk : dstOf ops k = o.dst := dstOf_of ho
  have Hs0 : (Hs 0).length ≤ (Hs k).length := S.le (by omega) (by omega)
  have sz : w.heap.size ≤ w'.heap.size := hI.size
  have putsz : (a.put o.dst rv).tmps.size = a.tmps.size := by cases o.dst <;> simp [Act.put]
  have putdf : (a.put o.dst rv).defers = a.defers := by cases o.dst <;> rfl
  have putne : ∀ t, o.dst ≠ some t → (a.put o.dst rv).tmps[t]? = a.tmps[t]? := fun t ht => by
    cases hd : o.dst with
    | none => rfl
    | some d =>
      simp only [Act.put, Array.getElem?_setIfInBounds]
      rw [if_neg (fun e => ht (by rw [hd, e]))]
  refine ⟨φn, hφnlen, I.slen, fun m hmn i x pe hcur hxx hpe => ?_, fun i j L L' m he hne hi hj hmn hcur hh hro => ?_, putsz.trans I.tm, fun t m av hmn hwr hF => ?_, fun i pe hp => ?_, fun j hj hDj i hcj => ?_, fun i L hi hL => ?_, fun m i he hmn hi hcur hh => ?_, fun m i he hmn hi hcur hh => ?_, fun m i he hmn hcur hh hro => ?_, I.calm.trans hI.calm, by have := I.size; omega, fun b hb => (hI.same b (fun h => hb (hwb0 b h))).trans (I.same b hb), putdf.trans I.defers, fun t ht => (putne t (ht o (mem_of_nth ho))).trans (I.keep t ht), fun i L hL => ?_⟩
  · -- ent
    rcases tri i with h | h | ⟨h1, h2⟩
    · have hkm := kltA m i h hcur
      rw [lastA m i hmn (.inl h) hcur hkm] at hxx
      rw [nA i h] at hpe
      exact Ent.z ok (zB m hkm hmn) (heok i x hxx (.inl h)) (hI.rh.ent i pe x hpe hxx) (fun _ _ => rfl)
    · have hkm := kltB m i x h hmn hxx
      rw [lastA m i hmn (.inr h) hcur hkm] at hxx
      rw [nB i h] at hpe
      exact Ent.z ok (zB m hkm hmn) (heok i x hxx (.inr h.1)) (hI.rh.ent i pe x hpe hxx) (fun _ _ => rfl)
    · have hc := curC m i h1 h2 hcur
      rw [nC i h1 h2] at hpe
      exact Ent.z ok (zC m hmn) (heOk_all x) (I.ent m hmn i x pe hc hxx hpe) (fun L e => hsameC i L m x hmn h1 h2 (by rw [hpe, e]) hc hxx)
  · -- inj
    rcases tri i with h | h | ⟨h1, h2⟩
    · have hkm := kltA m i h hcur
      rw [lastA m i hmn (.inl h) hcur hkm] at hh
      rcases tri j with h' | h' | ⟨h1', h2'⟩
      · rw [nA i h] at hi
        rw [nA j h'] at hj
        exact hI.rh.inj i j L L' he hne hi hj hh hro
      · exact (newOld j i L' L h' (notAB i h) hj hi).symm
      · rw [nA i h] at hi
        rw [nC j h1' h2'] at hj
        obtain ⟨he0, h5, h6⟩ := robA i he h hh
        have hV : Vs k i = true := by simp only [Wr, Bool.and_eq_true] at h; exact h.2
        exact I.inj i j L L' k he0 hne (hAold i L h hi) hj (by omega) (hcurk i hV) h5 (h6.trans hro)
    · rcases tri j with h' | h' | ⟨h1', h2'⟩
      · exact newOld i j L L' h (notAB j h') hi hj
      · have hkm := kltB m i _ h hmn hh
        rw [lastA m i hmn (.inr h) hcur hkm] at hh
        rw [nB i h] at hi
        rw [nB j h'] at hj
        exact hI.rh.inj i j L L' he hne hi hj hh hro
      · exact newOld i j L L' h h2' hi hj
    · have hc := curC m i h1 h2 hcur
      rcases tri j with h' | h' | ⟨h1', h2'⟩
      · rw [nC i h1 h2] at hi
        rw [nA j h'] at hj
        exact I.inj i j L L' m he hne hi (hAold j L' h' hj) hmn hc hh hro
      · exact (newOld j i L' L h' h2 hj hi).symm
      · rw [nC i h1 h2] at hi
        rw [nC j h1' h2'] at hj
        exact I.inj i j L L' m he hne hi hj hmn hc hh hro
  · -- fr
    by_cases hd : o.dst = some t
    · have hkm : k < m := hwr k hk hDkk (hdk.trans hd)
      have e1 : nth (FD ops (Fs 0) ps (fun j => D j || Nat.beq j k) n) t = nth (FD ops (Fs 0) ps (fun j => decide (j < k + 1)) n) t := FD_congr n fun j hj hdj => by
        by_cases hjk : j = k
        · subst hjk; rw [hDkk]; simp
        · rw [hD' j hjk, hm.writes t hd j hj hdj]
          simp only [decide_eq_decide]; omega
      have e2 : FD ops (Fs 0) ps (fun j => decide (j < k + 1)) n = FD ops (Fs 0) ps (fun _ => true) (k + 1) := by
        have := FD_below (ops := ops) (F0 := Fs 0) (ps := ps) (k + 1) (n - (k + 1))
        rwa [show k + 1 + (n - (k + 1)) = n from by omega] at this
      have hroomt : t < (Fs 0).length := by
        have := hroom t hd
        rw [S.fs (k := k) (by omega), FD_length] at this
        exact this
      rw [e1, e2] at hF
      simp only [FD, cond_true, hdk, hd, putF] at hF
      rw [nth_nset, if_pos ⟨rfl, by rw [FD_length]; exact hroomt⟩] at hF
      cases hF
      refine ⟨rv, ?_, RA.z (zB m hkm hmn) hvok hv⟩
      rw [hd]
      simp only [Act.put, Array.getElem?_setIfInBounds]
      simp [I.tm, hroomt]
    · have e1 : nth (FD ops (Fs 0) ps (fun j => D j || Nat.beq j k) n) t = nth (FD ops (Fs 0) ps D n) t := FD_congr n fun j hj hdj => by
        exact hD' j fun e => hd (by rw [← hdk, ← e]; exact hdj)
      rw [e1] at hF
      obtain ⟨v, h1, h2⟩ := I.fr t m av hmn (fun j hj hDj e => hwr j hj (by rw [hDj]; rfl) e) hF
      exact ⟨v, (putne t hd).trans h1, RA.z (zC m hmn) (fun s _ => idsOk_all s) h2⟩
  · -- base
    have hi0 : i < (Hs 0).length := by rw [← I.slen]; exact nth_lt hp
    rcases tri i with h | h | ⟨h1, h2⟩
    · rw [nA i h]
      have hV : Vs k i = true := by simp only [Wr, Bool.and_eq_true] at h; exact h.2
      rcases I.base i pe hp with h3 | h3
      · exact hx i pe (by rw [hseen i hV, h3])
      · rcases hx i .dead (by rw [hseen i hV, h3]) with h4 | h4 <;> exact .inr h4
    · have := h.1; omega
    · rw [nC i h1 h2]; exact I.base i pe hp
  · -- pend
    have hDj0 : D j = false := by
      have := hDj
      simp only [Bool.or_eq_false_iff] at this
      exact this.1
    have hjk : j ≠ k := fun e => by rw [e] at hDj; rw [hDkk] at hDj; cases hDj
    have := I.pend j hj hDj0 i hcj
    rcases tri i with h | h | ⟨h1, h2⟩
    · have hV : Vs k i = true := by simp only [Wr, Bool.and_eq_true] at h; exact h.2
      have := (hcurk i hV).cre j hj hcj
      rw [hDj0] at this; cases this
    · exfalso
      rcases Nat.lt_trichotomy j k with h3 | h3 | h3
      · have := S.le (k := j + 1) (m := k) h3 (by omega)
        have := hcj.2; have := h.1; omega
      · exact hjk h3
      · have := S.le (k := k + 1) (m := j) h3 (by omega)
        have := h.2; have := hcj.1; omega
    · rw [nC i h1 h2]; exact this
  · -- fresh
    rcases tri i with h | h | ⟨h1, h2⟩
    · rw [nA i h] at hL; exact I.fresh i L hi (hAold i L h hL)
    · rw [nB i h] at hL; exact hwb0 _ (hI.fresh i L (by rw [hMlen]; exact h.1) hL)
    · rw [nC i h1 h2] at hL; exact I.fresh i L hi hL
  · -- newro
    rcases tri i with h | h | ⟨h1, h2⟩
    · have hkm := kltA m i h hcur
      rw [lastA m i hmn (.inl h) hcur hkm] at hh
      obtain ⟨he0, h5, h6⟩ := robA i he h hh
      have hV : Vs k i = true := by simp only [Wr, Bool.and_eq_true] at h; exact h.2
      exact h6.symm.trans (I.newro k i he0 (by omega) hi (hcurk i hV) h5)
    · have hkm := kltB m i _ h hmn hh
      rw [lastA m i hmn (.inr h) hcur hkm] at hh
      exact hI.newro i he (by rw [hMlen]; exact h.1) hh
    · exact I.newro m i he hmn hi (curC m i h1 h2 hcur) hh
  · -- rob
    rcases tri i with h | h | ⟨h1, h2⟩
    · have hkm := kltA m i h hcur
      rw [lastA m i hmn (.inl h) hcur hkm] at hh
      obtain ⟨he0, h5, h6⟩ := robA i he h hh
      have hV : Vs k i = true := by simp only [Wr, Bool.and_eq_true] at h; exact h.2
      obtain ⟨he1, h7, h8⟩ := I.rob k i he0 (by omega) hi (hcurk i hV) h5
      exact ⟨he1, h7, h8.trans h6⟩
    · have := h.1; omega
    · exact I.rob m i he hmn hi (curC m i h1 h2 hcur) hh
  · -- rosame
    rcases tri i with h | h | ⟨h1, h2⟩
    · have hkm := kltA m i h hcur
      have hV : Vs k i = true := by simp only [Wr, Bool.and_eq_true] at h; exact h.2
      rw [lastA m i hmn (.inl h) hcur hkm]
      exact hI.rosame i he (masked i he h (I.rosame k i he (by omega) (hcurk i hV) hh hro)) hro
    · have := h.1; have := nth_lt hh; omega
    · exact I.rosame m i he hmn (curC m i h1 h2 hcur) hh hro
  · -- real
    rcases tri i with h | h | ⟨h1, h2⟩
    · rw [nA i h] at hL
      obtain ⟨he, _, hrb⟩ := hI.rh.at_ hL
      exact hrb.lt
    · rw [nB i h] at hL
      obtain ⟨he, _, hrb⟩ := hI.rh.at_ hL
      exact hrb.lt
    · rw [nC i h1 h2] at hL
      exact Nat.lt_of_lt_of_le (I.real i L hL) sz

theorem moveV_some {o : Oper} {F : Fr} {v : AV} (h : moveV o F = some v) : ∃ t, (o.op = .move (.tmp t) ∨ o.op = .assign (.tmp t)) ∧ nth F t = some (some v) := by
  unfold moveV at h
  split at h
  · rename_i t ho
    split at h
    · rename_i x hx; exact ⟨t, .inl ho, by rw [hx, h]⟩
    · cases h
  · rename_i t ho
    split at h
    · rename_i x hx; exact ⟨t, .inr ho, by rw [hx, h]⟩
    · cases h
  · cases h

theorem Reg.moved (S : Steps E ops n Fs Hs ps Vs wrs) (I : Reg E ops n Fs Hs ps Vs wrs φs w0 df tm0 D φ a w) {k : Nat} (hk : k < n) (hDk : D k = false)
    {o : Oper} (ho : nth ops.toList k = some o) (hput : Fs (k + 1) = putF (Fs k) o.dst (ps k)) (hroom : ∀ d, o.dst = some d → d < (Fs k).length) (hm : MayGo ops n D k o) {rv : Value}
    (hv : RA (φ.take (Hs k).length) (ps k) rv) (hH : Hs (k + 1) = Hs k) (hwr : ∀ b, wrs k b = false) :
    Reg E ops n Fs Hs ps Vs wrs φs w0 df tm0 (fun j => D j || Nat.beq j k) φ (a.put o.dst rv) w := by
  have hD' : ∀ j, j ≠ k → (D j || Nat.beq j k) = D j := fun j hj => by
    have : Nat.beq j k = false := by
      cases hb : Nat.beq j k with
      | false => rfl
      | true => exact absurd (Nat.eq_of_beq_eq_true hb) hj
    rw [this, Bool.or_false]
  have hDkk : (D k || Nat.beq k k) = true := by rw [Nat.beq_refl, Bool.or_true]
  have curC : ∀ m i, Cur n Hs Vs wrs (fun j => D j || Nat.beq j k) m i → Cur n Hs Vs wrs D m i := fun m i hcur => by
    refine ⟨fun j hj hwj => ?_, fun j hj hcj => ?_⟩
    · have hjk : j ≠ k := fun e => by rw [e] at hwj; simp [Wr, hwr] at hwj
      rw [← hD' j hjk]; exact hcur.wr j hj hwj
    · have hjk : j ≠ k := fun e => by rw [e] at hcj; have h1 := hcj.1; have h2 := hcj.2; rw [hH] at h2; omega
      rw [← hD' j hjk]; exact hcur.cre j hj hcj
  have hdk : dstOf ops k = o.dst := dstOf_of ho
  have putsz : (a.put o.dst rv).tmps.size = a.tmps.size := by cases o.dst <;> simp [Act.put]
  have putdf : (a.put o.dst rv).defers = a.defers := by cases o.dst <;> rfl
  have putne : ∀ t, o.dst ≠ some t → (a.put o.dst rv).tmps[t]? = a.tmps[t]? := fun t ht => by
    cases hd : o.dst with
    | none => rfl
    | some d =>
      simp only [Act.put, Array.getElem?_setIfInBounds]
      rw [if_neg (fun e => ht (by rw [hd, e]))]
  refine ⟨I.len, I.slen, fun m hmn i x pe hcur => I.ent m hmn i x pe (curC m i hcur), fun i j L L' m he hne hi hj hmn hcur => I.inj i j L L' m he hne hi hj hmn (curC m i hcur), putsz.trans I.tm, fun t m av hmn hwt hF => ?_, I.base, fun j hj hDj i hcj => I.pend j hj ?_ i hcj, I.fresh, fun m i he hmn hi hcur => I.newro m i he hmn hi (curC m i hcur), fun m i he hmn hi hcur => I.rob m i he hmn hi (curC m i hcur), fun m i he hmn hcur => I.rosame m i he hmn (curC m i hcur), I.calm, I.size, I.same, putdf.trans I.defers, fun t ht => (putne t (ht o (mem_of_nth ho))).trans (I.keep t ht), I.real⟩
  · by_cases hd : o.dst = some t
    · have hkm : k < m := hwt k hk hDkk (hdk.trans hd)
      have e1 : nth (FD ops (Fs 0) ps (fun j => D j || Nat.beq j k) n) t = nth (FD ops (Fs 0) ps (fun j => decide (j < k + 1)) n) t := FD_congr n fun j hj hdj => by
        by_cases hjk : j = k
        · subst hjk; rw [hDkk]; simp
        · rw [hD' j hjk, hm.writes t hd j hj hdj]
          simp only [decide_eq_decide]; omega
      have e2 : FD ops (Fs 0) ps (fun j => decide (j < k + 1)) n = FD ops (Fs 0) ps (fun _ => true) (k + 1) := by
        have := FD_below (ops := ops) (F0 := Fs 0) (ps := ps) (k + 1) (n - (k + 1))
        rwa [show k + 1 + (n - (k + 1)) = n from by omega] at this
      have hroomt : t < (Fs 0).length := by
        have := hroom t hd
        rw [S.fs (k := k) (by omega), FD_length] at this
        exact this
      rw [e1, e2] at hF
      simp only [FD, cond_true, hdk, hd, putF] at hF
      rw [nth_nset, if_pos ⟨rfl, by rw [FD_length]; exact hroomt⟩] at hF
      cases hF
      have hlm := S.le (k := k) (m := m) (by omega) hmn
      have hz : RZ (fun _ => true) (φ.take (Hs k).length) (φ.take (Hs m).length) := fun i pe _ hpe => by
        rw [nth_take] at hpe ⊢
        split at hpe
        · rename_i hi
          rw [if_pos (by omega)]; exact .inr (.inl hpe)
        · cases hpe
      refine ⟨rv, ?_, RA.z hz (fun s _ => idsOk_all s) hv⟩
      rw [hd]
      simp only [Act.put, Array.getElem?_setIfInBounds]
      simp [I.tm, hroomt]
    · have e1 : nth (FD ops (Fs 0) ps (fun j => D j || Nat.beq j k) n) t = nth (FD ops (Fs 0) ps D n) t := FD_congr n fun j hj hdj => by
        exact hD' j fun e => hd (by rw [← hdk, ← e]; exact hdj)
      rw [e1] at hF
      obtain ⟨v, h1, h2⟩ := I.fr t m av hmn (fun j hj hDj e => hwt j hj (by rw [hDj]; rfl) e) hF
      exact ⟨v, (putne t hd).trans h1, h2⟩
  · have := hDj
    simp only [Bool.or_eq_false_iff] at this
    exact this.1

theorem Reg.step (ok : EnvOk E) (S : Steps E ops n Fs Hs ps Vs wrs) (I : Reg E ops n Fs Hs ps Vs wrs φs w0 df tm0 D φ a w) {k : Nat} (hk : k < n) (hDk : D k = false) (hrd : ∀ j, Before ops j k → D j = true) (hcl : ∀ j m, Before ops j m → D m = true → D j = true)
    {o : Oper} (ho : nth ops.toList k = some o) (hm : MayGo ops n D k o)
    {Q : Exit → Act → World → Prop} {next : Act → World → Prop} (hn : ∀ φ' a' w', Reg E ops n Fs Hs ps Vs wrs φs w0 df tm0 (fun j => D j || Nat.beq j k) φ' a' w' → next a' w') : wpOp E.P ops Q k next a w := by
  obtain ⟨o', ho', hst⟩ := S.step k hk
  rw [ho] at ho'; cases ho'
  have hlk : (Hs k).length ≤ (Hs n).length := S.le (by omega) (Nat.le_refl _)
  have hcurk : ∀ i, Vs k i = true → Cur n Hs Vs wrs D k i := fun i hi => Reg.cur S hk hDk hrd hcl hi
  obtain ⟨φk, hφk⟩ : ∃ φk : List PE, ∀ i, nth φk i = if i < (Hs k).length then some (cond (Vs k i) ((nth φ i).getD .dead) .dead) else none :=
    ⟨(List.range (Hs k).length).map _, fun i => nthM _ _ i⟩
  have hφklen : φk.length = (Hs k).length := by
    rcases Nat.lt_trichotomy φk.length (Hs k).length with h | h | h
    · have h1 := hφk φk.length
      rw [if_pos h, nth_none (Nat.le_refl _)] at h1; cases h1
    · exact h
    · obtain ⟨x, hx⟩ := nth_some h
      have h1 := hφk (Hs k).length
      rw [hx, if_neg (by omega)] at h1; cases h1
  have hsee : ∀ i, Vs k i = true → nth φk i = nth φ i := fun i hi => by
    have h1 := hst.vle i hi
    obtain ⟨pe, hpe⟩ := nth_some (l := φ) (n := i) (by rw [I.len]; omega)
    rw [hφk, if_pos h1, hi, hpe]; rfl
  have z : RZ (fun _ => true) (φ.take (Hs k).length) φk := fun i pe _ hpe => by
    rw [nth_take] at hpe
    split at hpe
    · rename_i hi
      cases hV : Vs k i with
      | true => rw [hsee i hV]; exact .inr (.inl hpe)
      | false => rw [hφk, if_pos hi, hV]; exact .inr (.inr rfl)
    · cases hpe
  have hF : RF φk (maskF (looks ops o) 0 (Fs k)) a.tmps := by
    refine ⟨by rw [maskF_length, I.tm, S.fs (k := k) (by omega), FD_length], fun t av ht => ?_⟩
    obtain ⟨ht1, ht2⟩ := nth_maskF _ _ _ _ _ ht
    rw [Nat.zero_add] at ht1
    have hrdt := hm.reads t ht1
    obtain ⟨v, h1, h2⟩ := I.fr t k av (by omega) (fun j hj hDj hjd => by
      have := hrdt j hj hjd
      rw [hDj] at this
      simpa using this.symm) (by
      rw [← ht2, S.fs (k := k) (by omega), ← FD_below k (n - k), show k + (n - k) = n from by omega]
      exact FD_congr n fun j hj hjd => hrdt j hj hjd)
    exact ⟨v, h1, RA.z z (fun s _ => idsOk_all s) h2⟩
  have hgo : ∀ go, GoIs ops (Fs k) o.guard go → Region.wanted o (yielded ops a.tmps) = go := fun go hg => by
    refine GoIs.wanted (F := maskF (looks ops o) 0 (Fs k)) ?_ hF
    unfold GoIs at hg ⊢
    split at hg
    · rename_i hgd; simpa [hgd] using hg
    · rename_i j want hgd
      obtain ⟨t, ht, h⟩ := hg
      have hin : t ∈ looks ops o := by
        unfold looks
        rw [hgd]
        simp [ht]
      refine ⟨t, ht, ?_⟩
      rcases h with ⟨b, hb, hw⟩ | ⟨hb, hw⟩
      · exact .inl ⟨b, nth_maskF_in _ _ _ _ _ (by rwa [Nat.zero_add]) hb, hw⟩
      · exact .inr ⟨nth_maskF_in _ _ _ _ _ (by rwa [Nat.zero_add]) hb, hw⟩
  have hrhM : ∀ M : Hp E, (∀ i, nth M i = (nth (Hs k) i).map fun x => cond (Vs k i) (x.map fun he => ⟨cond (wrs k i) he.ro true, he.b⟩) none) → RH φk M w ∧ M.length = (Hs k).length := fun M hM => by
    have hMlen : M.length = (Hs k).length := by
      rcases Nat.lt_trichotomy M.length (Hs k).length with h | h | h
      · obtain ⟨x, hx⟩ := nth_some h
        have h1 := hM M.length
        rw [hx, nth_none (Nat.le_refl _)] at h1; cases h1
      · exact h
      · obtain ⟨x, hx⟩ := nth_some h
        have h1 := hM (Hs k).length
        rw [hx, nth_none (Nat.le_refl _)] at h1; cases h1
    have hat : ∀ i L, nth φk i = some (.at L) → Vs k i = true ∧ nth φ i = some (.at L) := fun i L h => by
      cases hV : Vs k i with
      | true => exact ⟨rfl, by rw [← hsee i hV]; exact h⟩
      | false =>
        rw [hφk, hV] at h
        split at h <;> cases h
    refine ⟨⟨by rw [hφklen, hMlen], fun i pe x hp hx => ?_, fun i j L L' he hne hi hj hh hro => ?_⟩, hMlen⟩
    · have hi : i < (Hs k).length := by rw [← hMlen]; exact nth_lt hx
      rw [hM] at hx
      obtain ⟨y, hy⟩ := nth_some hi
      rw [hy] at hx
      simp only [Option.map_some, Option.some.injEq] at hx
      cases hV : Vs k i with
      | false =>
        rw [hφk, if_pos hi, hV] at hp
        rw [hV] at hx
        cases hp; subst hx; trivial
      | true =>
        rw [hV] at hx
        rw [hsee i hV] at hp
        have h1 := I.ent k (by omega) i y pe (hcurk i hV) hy hp
        have h2 := Ent.z ok z (heOk_all y) h1 (fun _ _ => rfl)
        subst hx
        cases y with
        | none => exact h2
        | some he => exact h2.weak (wrs k i)
    · obtain ⟨hVi, hi⟩ := hat i L hi
      obtain ⟨hVj, hj⟩ := hat j L' hj
      rw [hM, hVi] at hh
      cases hy : nth (Hs k) i with
      | none => rw [hy] at hh; cases hh
      | some y =>
        rw [hy] at hh
        cases y with
        | none => cases hh
        | some he0 =>
          simp only [Option.map_some, cond_true, Option.some.injEq] at hh
          subst hh
          refine I.inj i j L L' k he0 hne hi hj (by omega) (hcurk i hVi) hy ?_
          cases hw : wrs k i with
          | false => rw [hw] at hro; cases hro
          | true => rw [hw] at hro; exact hro
  unfold wpOp
  rw [ops_at ho]
  simp only []
  rcases hst.did with ⟨hg, M, H', hM, hop, hlen, hH1, hids, hents⟩ | ⟨hg, hv, hH, hV, hw⟩ | ⟨hg, hmv, hH, hV, hw⟩
  · obtain ⟨hrh, hMlen⟩ := hrhM M hM
    rw [if_pos (hgo _ hg)]
    refine .inl (hop _ _ w _ a w next Q (by rw [hφklen, hMlen]) (Inv.refl hrh) hF fun rv φ' w' he hI hv => ?_)
    obtain ⟨φn, hR⟩ := I.after ok S hk hDk hrd hcl ho hst.put hst.room hm hM hφk hI he hv hlen hH1 hids hents
    exact hn _ _ _ hR
  · rw [if_neg (by rw [hgo _ hg]; exact fun e => by cases e)]
    have hM : ∀ i, nth ((Hs k).map fun _ => (none : Option (HE E))) i = (nth (Hs k) i).map fun x => cond (Vs k i) (x.map fun he => ⟨cond (wrs k i) he.ro true, he.b⟩) none := fun i => by
      rw [nth_map, hV]; rfl
    obtain ⟨hrh, hMlen⟩ := hrhM _ hM
    obtain ⟨φn, hR⟩ := I.after ok S hk hDk hrd hcl ho hst.put hst.room hm hM hφk (Inv.refl hrh) (.refl _) (rv := .tuple #[]) (by rw [hv]; exact ⟨[], rfl, trivial⟩) (by rw [hH, hMlen]) (fun i => by
      rw [hH]
      by_cases hi : i < (Hs k).length
      · rw [if_pos ⟨hi, by simp [Wr, hw]⟩]
      · rw [if_neg (fun e => hi e.1), nth_none (by omega), nth_none (by omega)]) (fun s hs => by rw [hv] at hs; cases hs) (fun i x hx hc => by
      rcases hc with hc | hc
      · simp [Wr, hw] at hc
      · rw [nth_none (by omega)] at hx; cases hx)
    exact hn _ _ _ hR
  · rw [if_pos (hgo _ hg)]
    obtain ⟨t, hot, hft⟩ := moveV_some hmv
    have hlook : t ∈ looks ops o := by
      unfold looks opTmps
      rcases hot with hot | hot <;> rw [hot] <;> simp [Op.operands]
    have hrdt := hm.reads t hlook
    obtain ⟨rv, h1, h2⟩ := I.fr t k (ps k) (by omega) (fun j hj hDj hjd => by
      have := hrdt j hj hjd
      rw [hDj] at this
      simpa using this.symm) (by
      rw [← hft, S.fs (k := k) (by omega), ← FD_below k (n - k), show k + (n - k) = n from by omega]
      exact FD_congr n fun j hj hjd => hrdt j hj hjd)
    have hev : a.eval (.tmp t) = rv := by simp only [Act.eval, Array.getD_eq_getD_getElem?, h1]; rfl
    refine .inl ?_
    unfold Oper.wp
    have hex : (execOp a.eval o).run E.P w = .ok (.value (a.eval (.tmp t))) w := by
      unfold execOp
      rcases hot with hot | hot <;> rw [hot] <;> rfl
    rw [hex, hev]
    exact hn φ _ _ (I.moved S hk hDk ho hst.put hst.room hm h2 hH hw)

theorem Reg.done (S : Steps E ops n Fs Hs ps Vs wrs) (I : Reg E ops n Fs Hs ps Vs wrs φs w0 df tm0 D φ a w) (hD : ∀ j, j < n → D j = true) {φ0 : List PE} {H0 : Hp E} {wb : World} (hl : φ0.length = H0.length) (hI : Inv φ0 H0 wb φs (Hs 0) w0) :
    Inv φ0 H0 wb φ (Hs n) w ∧ RF φ (Fs n) a.tmps ∧ Ext φs φ := by
  have h0n := S.le (k := 0) (m := n) (Nat.zero_le _) (Nat.le_refl _)
  have htn : φ.take (Hs n).length = φ := List.take_of_length_le (by rw [I.len]; exact Nat.le_refl _)
  have hcur : ∀ i, Cur n Hs Vs wrs D n i := fun i => ⟨fun j hj _ => by rw [hD j hj]; simp [hj], fun j hj _ => hD j hj⟩
  have hwb : ∀ b, WB φs (Hs 0) w0 b → WB φ0 H0 wb b := fun b h => by
    rcases h with h | ⟨j, L0, he0, h1, h2, h3, h4⟩
    · left; have := hI.size; omega
    · subst h2; exact hI.wb hl h1 h3 h4
  refine ⟨⟨⟨I.len, fun i pe x hp hx => ?_, fun i j L L' he hne hi hj hh hro => I.inj i j L L' n he hne hi hj (Nat.le_refl _) (hcur i) hh hro⟩, hI.base.trans I.base, by have := hI.hle; omega, fun i he h1 h2 => ?_, fun i he h1 h2 => ?_, fun i he h1 h2 => ?_, fun i L h1 h2 => ?_, hI.calm.trans I.calm, by have := hI.size; have := I.size; omega, fun b hb => (I.same b fun h => hb (hwb b h)).trans (hI.same b hb)⟩, ?_, I.base⟩
  · have := I.ent n (Nat.le_refl _) i x pe (hcur i) hx hp
    rwa [htn] at this
  · exact I.rosame n i he (Nat.le_refl _) (hcur i) (hI.rosame i he h1 h2) h2
  · obtain ⟨he1, h3, h4⟩ := I.rob n i he (Nat.le_refl _) (by have := hI.hle; omega) (hcur i) h2
    obtain ⟨he0, h5, h6⟩ := hI.robase i he1 h1 h3
    exact ⟨he0, h5, h6.trans h4⟩
  · rcases Nat.lt_or_ge i (Hs 0).length with h3 | h3
    · obtain ⟨he1, h4, h5⟩ := I.rob n i he (Nat.le_refl _) h3 (hcur i) h2
      exact h5.symm.trans (hI.newro i he1 h1 h4)
    · exact I.newro n i he (Nat.le_refl _) h3 (hcur i) h2
  · rcases Nat.lt_or_ge i (Hs 0).length with h3 | h3
    · obtain ⟨pe, hpe⟩ := nth_some (l := φs) (n := i) (by rw [I.slen]; exact h3)
      rcases I.base i pe hpe with h4 | h4
      · rw [h2] at h4; cases h4; exact hI.fresh i L h1 hpe
      · rw [h2] at h4; cases h4
    · exact hwb _ (I.fresh i L h3 h2)
  · refine ⟨by rw [S.fs (Nat.le_refl _), FD_length, I.tm], fun t av ht => ?_⟩
    rw [S.fs (Nat.le_refl _), FD_ext (D' := D) n (fun j hj => (hD j hj).symm)] at ht
    obtain ⟨v, h1, h2⟩ := I.fr t n av (Nat.le_refl _) (fun j hj _ _ => hj) ht
    rw [htn] at h2
    exact ⟨v, h1, h2⟩

theorem Steps.made (S : Steps E ops n Fs Hs ps Vs wrs) {i : Nat} (h0 : (Hs 0).length ≤ i) : ∀ m, m ≤ n → i < (Hs m).length → ∃ j, j < m ∧ Cre Hs j i
  | 0, _, h => by omega
  | m + 1, hm, h => by
    rcases Nat.lt_or_ge i (Hs m).length with h1 | h1
    · obtain ⟨j, h2, h3⟩ := S.made h0 m (by omega) h1
      exact ⟨j, by omega, h3⟩
    · exact ⟨m, by omega, h1, h⟩

theorem FD_none {F0 : Fr} : ∀ m, FD ops F0 ps (fun _ => false) m = F0
  | 0 => rfl
  | m + 1 => FD_none m

theorem nth_abs {m i : Nat} {pe : PE} (h : nth (List.replicate m PE.abs) i = some pe) : pe = .abs := by
  have := nth_mem h
  exact List.eq_of_mem_replicate this

theorem Reg.init (ok : EnvOk E) {φ0 : List PE} {H0 : Hp E} {wb : World} {φ : List PE} {a : Act} {w : World} (S : Steps E ops n Fs Hs ps Vs wrs) (hI : Inv φ0 H0 wb φ (Hs 0) w) (hF : RF φ (Fs 0) a.tmps) :
    Reg E ops n Fs Hs ps Vs wrs φ w a.defers a.tmps (fun _ => false) (φ ++ List.replicate ((Hs n).length - (Hs 0).length) .abs) a w := by
  have h0n := S.le (k := 0) (m := n) (Nat.zero_le _) (Nat.le_refl _)
  have hl := hI.rh.len
  have hlen : (φ ++ List.replicate ((Hs n).length - (Hs 0).length) PE.abs).length = (Hs n).length := by
    rw [List.length_append, List.length_replicate]; omega
  have hold : ∀ i, i < (Hs 0).length → nth (φ ++ List.replicate ((Hs n).length - (Hs 0).length) PE.abs) i = nth φ i := fun i hi => by rw [nth_append, if_pos (by omega)]
  have hnew : ∀ i pe, (Hs 0).length ≤ i → nth (φ ++ List.replicate ((Hs n).length - (Hs 0).length) PE.abs) i = some pe → pe = .abs := fun i pe hi h => by
    rw [nth_append, if_neg (by omega)] at h
    exact nth_abs h
  have hz : ∀ m, m ≤ n → RZ (fun _ => true) φ ((φ ++ List.replicate ((Hs n).length - (Hs 0).length) PE.abs).take (Hs m).length) := fun m hm i pe _ hp => by
    have hi := nth_lt hp
    have := S.le (k := 0) (m := m) (Nat.zero_le _) hm
    right; left
    rw [nth_take, if_pos (by omega), hold i (by omega)]; exact hp
  have hlt : ∀ m i, m ≤ n → Cur n Hs Vs wrs (fun _ => false) m i → i < (Hs m).length → i < (Hs 0).length := fun m i hm hc hi => by
    rcases Nat.lt_or_ge i (Hs 0).length with h | h
    · exact h
    · obtain ⟨j, hj, hcj⟩ := S.made h m hm hi
      have := hc.cre j (by omega) hcj
      cases this
  have hkeep : ∀ m i, m ≤ n → Cur n Hs Vs wrs (fun _ => false) m i → i < (Hs 0).length → nth (Hs m) i = nth (Hs 0) i := fun m i hm hc hi => by
    refine S.keep (Nat.zero_le _) hm hi fun j _ hj => ?_
    cases hw : Wr Vs wrs j i with
    | false => rfl
    | true =>
      have := hc.wr j (by omega) hw
      rw [decide_eq_true hj] at this; cases this
  refine ⟨hlen, hl, fun m hm i x pe hc hx hp => ?_, fun i j L L' m he hne hi hj hm hc hh hro => ?_, hF.1.symm, fun t m av hm _ ht => ?_, .push _ _, fun k hk _ i hc => ?_, fun i L hi hL => ?_, fun m i he hm hi hc hh => ?_, fun m i he hm hi hc hh => ?_, fun m i he hm hc hh _ => ?_, .refl _, Nat.le_refl _, fun _ _ => rfl, rfl, fun _ _ => rfl, fun i L hL => ?_⟩
  · have hi := hlt m i hm hc (nth_lt hx)
    rw [hkeep m i hm hc hi] at hx
    rw [hold i hi] at hp
    exact Ent.z ok (hz m hm) (heOk_all x) (hI.rh.ent i pe x hp hx) (fun _ _ => rfl)
  · have hi0 := hlt m i hm hc (nth_lt hh)
    have hj0 : j < (Hs 0).length := by
      rcases Nat.lt_or_ge j (Hs 0).length with h | h
      · exact h
      · cases hnew j _ h hj
    rw [hkeep m i hm hc hi0] at hh
    rw [hold i hi0] at hi
    rw [hold j hj0] at hj
    exact hI.rh.inj i j L L' he hne hi hj hh hro
  · rw [FD_none] at ht
    obtain ⟨v, h1, h2⟩ := hF.2 t av ht
    exact ⟨v, h1, RA.z (hz m hm) (fun s _ => idsOk_all s) h2⟩
  · left
    have h1 := S.le (k := 0) (m := k) (Nat.zero_le _) (by omega)
    have h2 := S.le (k := k + 1) (m := n) hk (Nat.le_refl _)
    obtain ⟨pe, hpe⟩ := nth_some (l := φ ++ List.replicate ((Hs n).length - (Hs 0).length) PE.abs) (n := i) (by rw [hlen]; have := hc.2; omega)
    rw [hpe, hnew i pe (by have := hc.1; omega) hpe]
  · cases hnew i _ hi hL
  · have := hlt m i hm hc (nth_lt hh); omega
  · rw [hkeep m i hm hc hi] at hh; exact ⟨he, hh, rfl⟩
  · rw [hkeep m i hm hc (nth_lt hh)]; exact hh
  · rcases Nat.lt_or_ge i (Hs 0).length with h | h
    · rw [hold i h] at hL
      obtain ⟨he, _, hrb⟩ := hI.rh.at_ hL
      exact hrb.lt
    · cases hnew i _ h hL
end
end
end Go.Eng
