import Derived.Test.YtjimjkhpahegjaaEngP
set_option linter.all false
namespace Go.Eng
open Go Go.RowKit

section
variable {E : Env} {R : Type}

/-! ## Frames -/
theorem maskF_length (ts : List Tmp) : ∀ (F : Fr) (i : Nat), (maskF ts i F).length = F.length
  | [], _ => rfl
  | _ :: F, i => by simp [maskF, maskF_length ts F]

theorem nth_maskF (ts : List Tmp) : ∀ (F : Fr) (i t : Nat) (av : AV), nth (maskF ts i F) t = some (some av) → (i + t) ∈ ts ∧ nth F t = some (some av)
  | [], _, _, _, h => by cases h
  | x :: F, i, 0, av, h => by
    simp only [maskF, nth] at h
    cases hb : ts.any (Nat.beq i) with
    | false => rw [hb] at h; cases h
    | true =>
      rw [hb] at h
      obtain ⟨t, ht, he⟩ := List.any_eq_true.1 hb
      have : i = t := Nat.eq_of_beq_eq_true he
      subst this
      exact ⟨by simpa using ht, h⟩
  | x :: F, i, t + 1, av, h => by
    have := nth_maskF ts F (i + 1) t av h
    exact ⟨by have h1 := this.1; rwa [show i + 1 + t = i + (t + 1) from by omega] at h1, this.2⟩

theorem nth_maskF_in (ts : List Tmp) : ∀ (F : Fr) (i t : Nat) (x : Option AV), (i + t) ∈ ts → nth F t = some x → nth (maskF ts i F) t = some x
  | [], _, _, _, _, h => by cases h
  | y :: F, i, 0, x, ht, h => by
    simp only [maskF, nth] at h ⊢
    have : ts.any (Nat.beq i) = true := List.any_eq_true.2 ⟨i, by simpa using ht, Nat.beq_refl i⟩
    rw [this]; exact h
  | y :: F, i, t + 1, x, ht, h => nth_maskF_in ts F (i + 1) t x (by rwa [show i + 1 + t = i + (t + 1) from by omega]) h

def putF (F : Fr) (dst : Option Tmp) (v : AV) : Fr :=
  match dst with
  | none => F
  | some d => nset F d (some v)

@[simp] theorem putF_length (F : Fr) (dst : Option Tmp) (v : AV) : (putF F dst v).length = F.length := by cases dst <;> simp [putF]

theorem putK_putF {F : Fr} {dst : Option Tmp} {v : AV} {K : Fr → Option R} {r : R} (h : putK F dst v K = some r) : K (putF F dst v) = some r ∧ ∀ d, dst = some d → d < F.length := by
  rcases putK_some h with ⟨rfl, h⟩ | ⟨d, rfl, hd, h⟩
  · exact ⟨h, fun d e => by cases e⟩
  · exact ⟨h, fun d' e => by cases e; exact hd⟩

/-- One calm operation, taken in the text's order. -/
structure StepOk (E : Env) (ops : Array Oper) (o : Oper) (F : Fr) (H : Hp E) (v : AV) (F1 : Fr) (H1 : Hp E) : Prop where
  put : F1 = putF F o.dst v
  room : ∀ d, o.dst = some d → d < F.length
  did : (GoIs ops F o.guard true ∧ ∃ H', OpOk E o (maskF (looks ops o) 0 F) (roAll E H) v H' ∧ H1 = H ++ H'.drop H.length) ∨ (GoIs ops F o.guard false ∧ v = .tup [] ∧ H1 = H)

theorem evalCalm_ok (ok : EnvOk E) {O : Orc E} (hO : OrcOk O) {ops : Array Oper} : ∀ (l : List Oper) (F : Fr) (H : Hp E) (K : Fr → Hp E → Option R) (r : R), evalCalm E O ops l F H K = some r →
    ∃ (Fs : Nat → Fr) (Hs : Nat → Hp E) (ps : Nat → AV), Fs 0 = F ∧ Hs 0 = H ∧ K (Fs l.length) (Hs l.length) = some r ∧
      ∀ k o, nth l k = some o → StepOk E ops o (Fs k) (Hs k) (ps k) (Fs (k + 1)) (Hs (k + 1)) := by
  intro l
  induction l with
  | nil => intro F H K r h; exact ⟨fun _ => F, fun _ => H, fun _ => .tup [], rfl, rfl, h, fun k o e => by cases e⟩
  | cons o l ih =>
    intro F H K r h
    have glue : ∀ (v : AV) (F1 : Fr) (H1 : Hp E), StepOk E ops o F H v F1 H1 → evalCalm E O ops l F1 H1 K = some r →
        ∃ (Fs : Nat → Fr) (Hs : Nat → Hp E) (ps : Nat → AV), Fs 0 = F ∧ Hs 0 = H ∧ K (Fs (o :: l).length) (Hs (o :: l).length) = some r ∧
          ∀ k o', nth (o :: l) k = some o' → StepOk E ops o' (Fs k) (Hs k) (ps k) (Fs (k + 1)) (Hs (k + 1)) := fun v F1 H1 hs h => by
      obtain ⟨Fs, Hs, ps, rfl, rfl, hK, hall⟩ := ih F1 H1 K r h
      refine ⟨fun n => match n with | 0 => F | n + 1 => Fs n, fun n => match n with | 0 => H | n + 1 => Hs n, fun n => match n with | 0 => v | n + 1 => ps n, rfl, rfl, hK, fun k o' e => ?_⟩
      cases k with
      | zero => cases e; exact hs
      | succ k => exact hall k o' e
    unfold evalCalm at h
    obtain ⟨go, hgo, h2⟩ := guardK_some h
    clear h
    rcases cond_some h2 with ⟨hg, h⟩ | ⟨hg, h⟩ <;> clear h2 <;> subst hg
    · replace h := pickSplit_some h
      obtain ⟨v, H1, h, hop⟩ := evalOp_ok ok hO h
      obtain ⟨h, hroom⟩ := putK_putF h
      exact glue v _ _ ⟨rfl, hroom, .inl ⟨hgo, H1, hop, rfl⟩⟩ h
    · obtain ⟨h, hroom⟩ := putK_putF h
      exact glue _ _ _ ⟨rfl, hroom, .inr ⟨hgo, rfl, rfl⟩⟩ h

/-- The frame behind those operations that are done, as the text has it. -/
def FD (ops : Array Oper) (F0 : Fr) (ps : Nat → AV) (D : Nat → Bool) : Nat → Fr
  | 0 => F0
  | n + 1 => cond (D n) (putF (FD ops F0 ps D n) (dstOf ops n) (ps n)) (FD ops F0 ps D n)

section
variable {ops : Array Oper} {F0 : Fr} {ps : Nat → AV} {D D' : Nat → Bool}

theorem FD_length : ∀ n, (FD ops F0 ps D n).length = F0.length
  | 0 => rfl
  | n + 1 => by
    simp only [FD]
    cases D n <;> simp [FD_length n]

theorem nth_putF_ne {F : Fr} {dst : Option Tmp} {v : AV} {t : Tmp} (h : dst ≠ some t) : nth (putF F dst v) t = nth F t := by
  cases dst with
  | none => rfl
  | some d => simp only [putF]; rw [nth_nset, if_neg (fun e => h (by rw [e.1]))]

theorem FD_congr {t : Tmp} : ∀ n, (∀ j, j < n → dstOf ops j = some t → D j = D' j) → nth (FD ops F0 ps D n) t = nth (FD ops F0 ps D' n) t
  | 0, _ => rfl
  | n + 1, h => by
    have ih := FD_congr n (fun j hj => h j (by omega))
    simp only [FD]
    by_cases hd : dstOf ops n = some t
    · rw [h n (by omega) hd]
      cases D' n with
      | false => exact ih
      | true =>
        simp only [cond_true, hd, putF]
        rw [nth_nset, nth_nset, FD_length, FD_length, ih]
    · have h1 : ∀ b (F : Fr), nth (cond b (putF F (dstOf ops n) (ps n)) F) t = nth F t := fun b F => by
        cases b with
        | false => rfl
        | true => exact nth_putF_ne hd
      rw [h1, h1, ih]

theorem FD_ext : ∀ n, (∀ j, j < n → D j = D' j) → FD ops F0 ps D n = FD ops F0 ps D' n
  | 0, _ => rfl
  | n + 1, h => by simp only [FD]; rw [h n (by omega), FD_ext n (fun j hj => h j (by omega))]

theorem FD_below (k : Nat) : ∀ m, FD ops F0 ps (fun j => decide (j < k)) (k + m) = FD ops F0 ps (fun _ => true) k
  | 0 => FD_ext k fun j hj => by simpa using hj
  | m + 1 => by
    show cond (decide (k + m < k)) _ _ = _
    rw [show decide (k + m < k) = false from by simp]
    exact FD_below k m
end

/-! ## The region -/
structure Reg (E : Env) (ops : Array Oper) (n : Nat) (Fs : Nat → Fr) (Hs : Nat → Hp E) (ps : Nat → AV) (φs : List PE) (w0 : World) (df : List Deferred) (tm0 : Array Value) (D : Nat → Bool) (φ : List PE) (a : Act) (w : World) : Prop where
  len : φ.length = (Hs n).length
  rh : ∀ k, k ≤ n → RH (φ.take (Hs k).length) (Hs k) w
  tm : a.tmps.size = (Fs 0).length
  fr : ∀ t k av, k ≤ n → (∀ j, j < n → D j = true → dstOf ops j = some t → j < k) → nth (FD ops (Fs 0) ps D n) t = some (some av) → ∃ v, a.tmps[t]? = some v ∧ RA (φ.take (Hs k).length) av v
  base : φ.take (Hs 0).length = φs
  pend : ∀ k, k < n → D k = false → ∀ i, (Hs k).length ≤ i → i < (Hs (k + 1)).length → nth φ i = some .abs ∨ nth φ i = some .dead
  fresh : ∀ i L, (Hs 0).length ≤ i → nth φ i = some (.at L) → w0.heap.size ≤ L.b
  newro : ∀ k, k < n → D k = true → ∀ i he, (Hs k).length ≤ i → i < (Hs (k + 1)).length → nth (Hs n) i = some (some he) → he.ro = false
  calm : Calm w0 w
  size : w0.heap.size ≤ w.heap.size
  same : ∀ b, b < w0.heap.size → w.heap[b]? = w0.heap[b]?
  defers : a.defers = df
  keep : ∀ t, (∀ o ∈ ops.toList, o.dst ≠ some t) → a.tmps[t]? = tm0[t]?

variable {ops : Array Oper} {n : Nat} {Fs : Nat → Fr} {Hs : Nat → Hp E} {ps : Nat → AV} {φs : List PE} {w0 : World} {df : List Deferred} {tm0 : Array Value} {D : Nat → Bool} {φ : List PE} {a : Act} {w : World}

/-- The steps of the text, one behind the other. -/
structure Steps (E : Env) (ops : Array Oper) (n : Nat) (Fs : Nat → Fr) (Hs : Nat → Hp E) (ps : Nat → AV) : Prop where
  step : ∀ k, k < n → ∃ o, nth ops.toList k = some o ∧ StepOk E ops o (Fs k) (Hs k) (ps k) (Fs (k + 1)) (Hs (k + 1))

theorem Steps.grow (S : Steps E ops n Fs Hs ps) {k : Nat} (hk : k < n) : ∃ t, Hs (k + 1) = Hs k ++ t := by
  obtain ⟨o, _, h⟩ := S.step k hk
  rcases h.did with ⟨_, H', _, e⟩ | ⟨_, _, e⟩
  · exact ⟨_, e⟩
  · exact ⟨[], by simp [e]⟩

theorem Steps.grows (S : Steps E ops n Fs Hs ps) {k m : Nat} (hk : k ≤ m) (hm : m ≤ n) : ∃ t, Hs m = Hs k ++ t := by
  induction m with
  | zero => have : k = 0 := by omega
            subst this; exact ⟨[], by simp⟩
  | succ m ih =>
    by_cases h : k = m + 1
    · subst h; exact ⟨[], by simp⟩
    · obtain ⟨t, ht⟩ := ih (by omega) (by omega)
      obtain ⟨t', ht'⟩ := S.grow (k := m) (by omega)
      exact ⟨t ++ t', by rw [ht', ht, List.append_assoc]⟩

theorem Steps.le (S : Steps E ops n Fs Hs ps) {k m : Nat} (hk : k ≤ m) (hm : m ≤ n) : (Hs k).length ≤ (Hs m).length := by
  obtain ⟨t, ht⟩ := S.grows hk hm
  rw [ht]; simp

theorem Steps.nth (S : Steps E ops n Fs Hs ps) {k m i : Nat} (hk : k ≤ m) (hm : m ≤ n) (hi : i < (Hs k).length) : nth (Hs m) i = nth (Hs k) i := by
  obtain ⟨t, ht⟩ := S.grows hk hm
  rw [ht, nth_append, if_pos hi]

theorem Steps.fs (S : Steps E ops n Fs Hs ps) {k : Nat} (hk : k ≤ n) : Fs k = FD ops (Fs 0) ps (fun _ => true) k := by
  induction k with
  | zero => rfl
  | succ k ih =>
    obtain ⟨o, ho, h⟩ := S.step k (by omega)
    rw [h.put, ih (by omega)]
    have : dstOf ops k = o.dst := by unfold dstOf; rw [ho]; rfl
    simp only [FD, cond_true, this]

theorem Ext.take (φ φ' : List PE) : Ext φ (φ ++ φ') := .push _ _
end
end Go.Eng
