import Derived.Test.YtflmjaehnbnjnaaEngT
set_option linter.all false
namespace Go.Eng
open Go Go.RowKit

section
variable {E : Env} {R : Type}

def viewVals (slots : List Nat) (F : Fr) : List (Option AV) := slots.map fun t => (nth F t).getD none

def unviewF : List Nat → List (Option AV) → Fr → Fr
  | s :: ss, v :: vs, F => unviewF ss vs (nset F s v)
  | _, _, F => F

def unview (n : Nat) (slots : List Nat) (vs : List (Option AV)) : Fr := unviewF slots vs (List.replicate n none)

def viewK (m : Nat) (slots : List Nat) (F : Fr) (H : Hp E) (K : List (Option AV) → Hp E → Option R) : Option R := sweepVK m (viewVals slots F) H K

theorem nth_replicate {α : Type} {n i : Nat} {x y : α} (h : nth (List.replicate n x) i = some y) : y = x := by
  rw [nth_eq, List.getElem?_replicate] at h
  split at h
  · cases h; rfl
  · cases h

theorem unviewF_ok {φ : List PE} {tmps : Array Value} : ∀ (slots : List Nat) (vs : List (Option AV)) (F : Fr), RF φ F tmps →
    (∀ k t av, nth slots k = some t → nth vs k = some (some av) → ∃ v, tmps[t]? = some v ∧ RA φ av v) → RF φ (unviewF slots vs F) tmps
  | [], _, F, h, _ => h
  | s :: ss, [], F, h, _ => h
  | s :: ss, v :: vs, F, h, hk => by
    refine unviewF_ok ss vs _ ⟨by rw [nset_length]; exact h.1, fun i av hi => ?_⟩ fun k t av h1 h2 => hk (k + 1) t av h1 h2
    rw [nth_nset] at hi
    split at hi
    · rename_i hc
      obtain ⟨rfl, _⟩ := hc
      cases hi
      exact hk 0 i av rfl rfl
    · exact h.2 i av hi

theorem unview_ok {φ : List PE} {tmps : Array Value} {n : Nat} {slots : List Nat} {vs : List (Option AV)} (hn : tmps.size = n)
    (h : ∀ k t av, nth slots k = some t → nth vs k = some (some av) → ∃ v, tmps[t]? = some v ∧ RA φ av v) : RF φ (unview n slots vs) tmps := by
  refine unviewF_ok slots vs _ ⟨by simp [hn], fun i av hi => ?_⟩ h
  have := nth_replicate hi
  cases this

theorem viewK_ok (ok : EnvOk E) {m : Nat} {slots : List Nat} {F : Fr} {H : Hp E} {K : List (Option AV) → Hp E → Option R} {r : R} (h : viewK m slots F H K = some r) :
    ∃ vs H', K vs H' = some r ∧ ∀ (φ0 : List PE) (H0 : Hp E) (w0 : World) (φ : List PE) (w : World) (tmps : Array Value), φ0.length = H0.length → H0.length = m → Inv φ0 H0 w0 φ H w → RF φ F tmps →
      ∃ φ', Inv φ0 H0 w0 φ' H' w ∧ RF φ' (unview F.length slots vs) tmps := by
  obtain ⟨vs, H', hK, _, hb⟩ := sweepVK_back ok h
  refine ⟨vs, H', hK, fun φ0 H0 w0 φ w tmps hl hm hI hF => ?_⟩
  obtain ⟨φ', hI', hv⟩ := hb φ0 H0 w0 φ w hl hm hI
  refine ⟨φ', hI', unview_ok hF.1.symm fun k t av hs hk => ?_⟩
  obtain ⟨av0, h0, hr⟩ := hv k av hk
  unfold viewVals at h0
  rw [nth_map, hs] at h0
  have h0 : (nth F t).getD none = some av0 := by simpa using h0
  have h1 : nth F t = some (some av0) := by
    cases hx : nth F t with
    | none => rw [hx] at h0; cases h0
    | some x => rw [hx] at h0; simp at h0; rw [h0]
  obtain ⟨v, hv1, hv2⟩ := hF.2 t av0 h1
  exact ⟨v, hv1, hr v hv2⟩

def iterK (O : Orc E) (L : Lps E) (J : JT) (m n id : Nat) (slots oslots : List Nat) (c : Code) : Nat → List (Option AV) → Hp E → (Ex → List (Option AV) → Hp E → Option R) → Option R
  | 0, _, _, _ => none
  | k + 1, vs, H, K => evalCode E O L J c (unview n slots vs) H fun ex F H => match ex with
    | .normal => cond (Nat.beq F.length n) (viewK m slots F H fun vs H => iterK O L J m n id slots oslots c k vs H K) none
    | .exit j => cond (Nat.beq F.length n) (viewK m oslots F H fun vs H => K (cond (Nat.beq j id) .normal (.exit j)) vs H) none
    | .goto _ => none
    | .ret => cond (Nat.beq F.length n) (viewK m oslots F H fun vs H => K .ret vs H) none

theorem rounds_mono {P : Program} {c : Code} {Q : Exit → Act → World → Prop} : ∀ {k : Nat} {a : Act} {w : World}, Code.rounds P c Q k a w → Code.rounds P c Q (k + 1) a w
  | 0, _, _, h => h.elim
  | k + 1, a, w, h => Code.wp_mono (fun e a w q => by
      cases e with
      | normal => exact rounds_mono (k := k) q
      | _ => exact q) h

theorem rounds_le {P : Program} {c : Code} {Q : Exit → Act → World → Prop} {k k' : Nat} {a : Act} {w : World} (hk : k ≤ k') (h : Code.rounds P c Q k a w) : Code.rounds P c Q k' a w := by
  induction k' with
  | zero => have : k = 0 := by omega
            subst this; exact h
  | succ k' ih =>
    by_cases he : k = k' + 1
    · subst he; exact h
    · exact rounds_mono (ih (by omega))

def RoundsAt (E : Env) (m id : Nat) (c : Code) (F : Fr) (H : Hp E) (ex : Ex) (F' : Fr) (H' : Hp E) (k : Nat) : Prop :=
  ∀ (φ0 : List PE) (H0 : Hp E) (w0 : World) (φ : List PE) (a : Act) (w : World) (Q : Exit → Act → World → Prop), φ0.length = H0.length → H0.length = m → Inv φ0 H0 w0 φ H w → RF φ F a.tmps →
    (∀ φ' a' w', Inv φ0 H0 w0 φ' H' w' → RF φ' F' a'.tmps → a'.defers = a.defers → Q ex.real a' w') → Code.rounds E.P c (Exit.inBlock id Q) k a w

theorem iterK_ok (ok : EnvOk E) {O : Orc E} (hO : OrcOk O) {L : Lps E} {J : JT} (hJ : JOk J) {m n id : Nat} {slots oslots : List Nat} {c : Code} (hL : LpsOk E m L (loopsOf c)) : ∀ (k : Nat) (vs : List (Option AV)) (H : Hp E) (K : Ex → List (Option AV) → Hp E → Option R) (r : R),
    iterK O L J m n id slots oslots c k vs H K = some r → ∃ ex vs' H', K ex vs' H' = some r ∧ RoundsAt E m id c (unview n slots vs) H ex (unview n oslots vs') H' k := by
  intro k
  induction k with
  | zero => intro vs H K r h; cases h
  | succ k ih =>
    intro vs H K r h
    unfold iterK at h
    obtain ⟨ex, F1, H1, h, hc⟩ := evalCode_ok ok (draw_ok ok) hO hJ c hL _ _ _ r h
    cases ex with
    | normal =>
      obtain ⟨hn, h⟩ := cond_none_right h
      have hn := Nat.eq_of_beq_eq_true hn
      obtain ⟨vs1, H2, h, hv⟩ := viewK_ok ok h
      rw [hn] at hv
      obtain ⟨ex, vs', H', hK, hr⟩ := ih vs1 H2 K r h
      refine ⟨ex, vs', H', hK, fun φ0 H0 w0 φ a w Q hl hm hI hF hq => ?_⟩
      refine hc φ0 H0 w0 φ a w _ hl hm hI hF fun φ1 a1 w1 hI1 hF1 hd1 _ => ?_
      obtain ⟨φ2, hI2, hF2⟩ := hv φ0 H0 w0 φ1 w1 a1.tmps hl hm hI1 hF1
      exact hr φ0 H0 w0 φ2 a1 w1 Q hl hm hI2 hF2 fun φ' a' w' hI' hF' hd' => hq φ' a' w' hI' hF' (hd'.trans hd1)
    | exit j =>
      obtain ⟨hn, h⟩ := cond_none_right h
      have hn := Nat.eq_of_beq_eq_true hn
      obtain ⟨vs1, H2, h, hv⟩ := viewK_ok ok h
      rw [hn] at hv
      refine ⟨_, vs1, H2, h, fun φ0 H0 w0 φ a w Q hl hm hI hF hq => ?_⟩
      refine hc φ0 H0 w0 φ a w _ hl hm hI hF fun φ1 a1 w1 hI1 hF1 hd1 _ => ?_
      obtain ⟨φ2, hI2, hF2⟩ := hv φ0 H0 w0 φ1 w1 a1.tmps hl hm hI1 hF1
      have hq := hq φ2 a1 w1 hI2 hF2 hd1
      show Exit.inBlock id Q (.exit j) a1 w1
      cases hb : Nat.beq j id with
      | true =>
        rw [hb] at hq
        have := Nat.eq_of_beq_eq_true hb
        simp only [Exit.inBlock, this, if_true]
        exact hq
      | false =>
        rw [hb] at hq
        have : ¬ j = id := fun e => by rw [e, Nat.beq_refl] at hb; cases hb
        simp only [Exit.inBlock, this, if_false]
        exact hq
    | goto _ => cases h
    | ret =>
      obtain ⟨hn, h⟩ := cond_none_right h
      have hn := Nat.eq_of_beq_eq_true hn
      obtain ⟨vs1, H2, h, hv⟩ := viewK_ok ok h
      rw [hn] at hv
      refine ⟨_, vs1, H2, h, fun φ0 H0 w0 φ a w Q hl hm hI hF hq => ?_⟩
      refine hc φ0 H0 w0 φ a w _ hl hm hI hF fun φ1 a1 w1 hI1 hF1 hd1 _ => ?_
      obtain ⟨φ2, hI2, hF2⟩ := hv φ0 H0 w0 φ1 w1 a1.tmps hl hm hI1 hF1
      exact hq φ2 a1 w1 hI2 hF2 hd1

abbrev SlotT := List (Nat × List Nat × List Nat)

def slotsAt (id : Nat) : SlotT → List Nat × List Nat
  | [] => ([], [])
  | x :: l => cond (Nat.beq x.1 id) x.2 (slotsAt id l)

def lookC (j : Nat) : List (Nat × Code) → Option Code
  | [] => none
  | (id, c) :: l => cond (Nat.beq id j) (some c) (lookC j l)

def allLoops : Code → List (Nat × Code)
  | .seq a b => allLoops a ++ allLoops b
  | .cond _ a b => allLoops a ++ allLoops b
  | .block id (.loop c) => (id, c) :: allLoops c
  | .block _ c => allLoops c
  | _ => []

end
end Go.Eng
