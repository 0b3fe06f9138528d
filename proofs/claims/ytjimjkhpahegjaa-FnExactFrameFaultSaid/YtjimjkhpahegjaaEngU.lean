import Derived.Test.YtjimjkhpahegjaaEngT
namespace Go.Eng
open Go Go.RowKit

section
variable {E : Env} {R : Type}

/-! ## What is seen of a frame -/
def viewVals (slots : List Nat) (F : Fr) : List (Option AV) := slots.map fun t => (nth F t).getD none

def unviewF : List Nat → List (Option AV) → Fr → Fr
  | s :: ss, v :: vs, F => unviewF ss vs (nset F s v)
  | _, _, F => F

def unview (n : Nat) (slots : List Nat) (vs : List (Option AV)) : Fr := unviewF slots vs (List.replicate n none)

def viewK (m : Nat) (slots : List Nat) (F : Fr) (H : Hp E) (K : List (Option AV) → Hp E → Option R) : Option R := sweepVK m (viewVals slots F) H K

theorem nth_replicate {α : Type} {n i : Nat} {x y : α} (h : nth (List.replicate n x) i = some y) : y = x := by
  rw [nth_eq, List.getElem?_replicate] at h
  split at h
  · cases h; rfl
  · cases h

theorem unviewF_ok {φ : List PE} {tmps : Array Value} : ∀ (slots : List Nat) (vs : List (Option AV)) (F : Fr), RF φ F tmps →
    (∀ k t av, nth slots k = some t → nth vs k = some (some av) → ∃ v, tmps[t]? = some v ∧ RA φ av v) → RF φ (unviewF slots vs F) tmps
  | [], _, F, h, _ => h
  | s :: ss, [], F, h, _ => h
  | s :: ss, v :: vs, F, h, hk => by
    refine unviewF_ok ss vs _ ⟨by rw [nset_length]; exact h.1, fun i av hi => ?_⟩ fun k t av h1 h2 => hk (k + 1) t av h1 h2
    rw [nth_nset] at hi
    split at hi
    · rename_i hc
      obtain ⟨rfl, _⟩ := hc
      cases hi
      exact hk 0 i av rfl rfl
    · exact h.2 i av hi

theorem unview_ok {φ : List PE} {tmps : Array Value} {n : Nat} {slots : List Nat} {vs : List (Option AV)} (hn : tmps.size = n)
    (h : ∀ k t av, nth slots k = some t → nth vs k = some (some av) → ∃ v, tmps[t]? = some v ∧ RA φ av v) : RF φ (unview n slots vs) tmps := by
  refine unviewF_ok slots vs _ ⟨by simp [hn], fun i av hi => ?_⟩ h
  have := nth_replicate hi
  cases this

theorem viewK_ok (ok : EnvOk E) {m : Nat} {slots : List Nat} {F : Fr} {H : Hp E} {K : List (Option AV) → Hp E → Option R} {r : R} (h : viewK m slots F H K = some r) :
    ∃ vs H', K vs H' = some r ∧ ∀ (φ0 : List PE) (H0 : Hp E) (w0 : World) (φ : List PE) (w : World) (tmps : Array Value), φ0.length = H0.length → H0.length = m → Inv φ0 H0 w0 φ H w → RF φ F tmps →
      ∃ φ', Inv φ0 H0 w0 φ' H' w ∧ RF φ' (unview F.length slots vs) tmps := by
  obtain ⟨vs, H', hK, _, hb⟩ := sweepVK_back ok h
  refine ⟨vs, H', hK, fun φ0 H0 w0 φ w tmps hl hm hI hF => ?_⟩
  obtain ⟨φ', hI', hv⟩ := hb φ0 H0 w0 φ w hl hm hI
  refine ⟨φ', hI', unview_ok hF.1.symm fun k t av hs hk => ?_⟩
  obtain ⟨av0, h0, hr⟩ := hv k av hk
  unfold viewVals at h0
  rw [nth_map, hs] at h0
  have h0 : (nth F t).getD none = some av0 := by simpa using h0
  have h1 : nth F t = some (some av0) := by
    cases hx : nth F t with
    | none => rw [hx] at h0; cases h0
    | some x => rw [hx] at h0; simp at h0; rw [h0]
  obtain ⟨v, hv1, hv2⟩ := hF.2 t av0 h1
  exact ⟨v, hv1, hr v hv2⟩

/-! ## Loops -/
def iterK (O : Orc E) (L : Lps E) (m n id : Nat) (slots oslots : List Nat) (c : Code) : Nat → List (Option AV) → Hp E → (Ex → List (Option AV) → Hp E → Option R) → Option R
  | 0, _, _, _ => none
  | k + 1, vs, H, K => evalCode E O L c (unview n slots vs) H fun ex F H => match ex with
    | .normal => cond (Nat.beq F.length n) (viewK m slots F H fun vs H => iterK O L m n id slots oslots c k vs H K) none
    | .exit j => cond (Nat.beq F.length n) (viewK m oslots F H fun vs H => K (cond (Nat.beq j id) .normal (.exit j)) vs H) none
    | .ret => cond (Nat.beq F.length n) (viewK m oslots F H fun vs H => K .ret vs H) none

theorem rounds_mono {P : Program} {c : Code} {Q : Exit → Act → World → Prop} : ∀ {k : Nat} {a : Act} {w : World}, Code.rounds P c Q k a w → Code.rounds P c Q (k + 1) a w
  | 0, _, _, h => h.elim
  | k + 1, a, w, h => Code.wp_mono (fun e a w q => by
      cases e with
      | normal => exact rounds_mono (k := k) q
      | _ => exact q) h

theorem rounds_le {P : Program} {c : Code} {Q : Exit → Act → World → Prop} {k k' : Nat} {a : Act} {w : World} (hk : k ≤ k') (h : Code.rounds P c Q k a w) : Code.rounds P c Q k' a w := by
  induction k' with
  | zero => have : k = 0 := by omega
            subst this; exact h
  | succ k' ih =>
    by_cases he : k = k' + 1
    · subst he; exact h
    · exact rounds_mono (ih (by omega))

/-- All the loop's ends, with its rounds counted. -/
def RoundsAt (E : Env) (m id : Nat) (c : Code) (F : Fr) (H : Hp E) (ex : Ex) (F' : Fr) (H' : Hp E) (k : Nat) : Prop :=
  ∀ (φ0 : List PE) (H0 : Hp E) (w0 : World) (φ : List PE) (a : Act) (w : World) (Q : Exit → Act → World → Prop), φ0.length = H0.length → H0.length = m → Inv φ0 H0 w0 φ H w → RF φ F a.tmps →
    (∀ φ' a' w', Inv φ0 H0 w0 φ' H' w' → RF φ' F' a'.tmps → a'.defers = a.defers → Q ex.real a' w') → Code.rounds E.P c (Exit.inBlock id Q) k a w

theorem iterK_ok (ok : EnvOk E) {O : Orc E} (hO : OrcOk O) {L : Lps E} {m n id : Nat} {slots oslots : List Nat} {c : Code} (hL : LpsOk E m L (loopsOf c)) : ∀ (k : Nat) (vs : List (Option AV)) (H : Hp E) (K : Ex → List (Option AV) → Hp E → Option R) (r : R),
    iterK O L m n id slots oslots c k vs H K = some r → ∃ ex vs' H', K ex vs' H' = some r ∧ RoundsAt E m id c (unview n slots vs) H ex (unview n oslots vs') H' k := by
  intro k
  induction k with
  | zero => intro vs H K r h; cases h
  | succ k ih =>
    intro vs H K r h
    unfold iterK at h
    obtain ⟨ex, F1, H1, h, hc⟩ := evalCode_ok ok (draw_ok ok) hO c hL _ _ _ r h
    cases ex with
    | normal =>
      obtain ⟨hn, h⟩ := cond_none_right h
      have hn := Nat.eq_of_beq_eq_true hn
      obtain ⟨vs1, H2, h, hv⟩ := viewK_ok ok h
      rw [hn] at hv
      obtain ⟨ex, vs', H', hK, hr⟩ := ih vs1 H2 K r h
      refine ⟨ex, vs', H', hK, fun φ0 H0 w0 φ a w Q hl hm hI hF hq => ?_⟩
      refine hc φ0 H0 w0 φ a w _ hl hm hI hF fun φ1 a1 w1 hI1 hF1 hd1 => ?_
      obtain ⟨φ2, hI2, hF2⟩ := hv φ0 H0 w0 φ1 w1 a1.tmps hl hm hI1 hF1
      exact hr φ0 H0 w0 φ2 a1 w1 Q hl hm hI2 hF2 fun φ' a' w' hI' hF' hd' => hq φ' a' w' hI' hF' (hd'.trans hd1)
    | exit j =>
      obtain ⟨hn, h⟩ := cond_none_right h
      have hn := Nat.eq_of_beq_eq_true hn
      obtain ⟨vs1, H2, h, hv⟩ := viewK_ok ok h
      rw [hn] at hv
      refine ⟨_, vs1, H2, h, fun φ0 H0 w0 φ a w Q hl hm hI hF hq => ?_⟩
      refine hc φ0 H0 w0 φ a w _ hl hm hI hF fun φ1 a1 w1 hI1 hF1 hd1 => ?_
      obtain ⟨φ2, hI2, hF2⟩ := hv φ0 H0 w0 φ1 w1 a1.tmps hl hm hI1 hF1
      have hq := hq φ2 a1 w1 hI2 hF2 hd1
      show Exit.inBlock id Q (.exit j) a1 w1
      cases hb : Nat.beq j id with
      | true =>
        rw [hb] at hq
        have := Nat.eq_of_beq_eq_true hb
        simp only [Exit.inBlock, this, if_true]
        exact hq
      | false =>
        rw [hb] at hq
        have : ¬ j = id := fun e => by rw [e, Nat.beq_refl] at hb; cases hb
        simp only [Exit.inBlock, this, if_false]
        exact hq
    | ret =>
      obtain ⟨hn, h⟩ := cond_none_right h
      have hn := Nat.eq_of_beq_eq_true hn
      obtain ⟨vs1, H2, h, hv⟩ := viewK_ok ok h
      rw [hn] at hv
      refine ⟨_, vs1, H2, h, fun φ0 H0 w0 φ a w Q hl hm hI hF hq => ?_⟩
      refine hc φ0 H0 w0 φ a w _ hl hm hI hF fun φ1 a1 w1 hI1 hF1 hd1 => ?_
      obtain ⟨φ2, hI2, hF2⟩ := hv φ0 H0 w0 φ1 w1 a1.tmps hl hm hI1 hF1
      exact hq φ2 a1 w1 hI2 hF2 hd1

/-- How many rounds are let. -/
def svFuel : SV → Nat
  | .int _ n => n.natAbs
  | .str s => s.size
  | _ => 0

def hbFuel : Option (HE E) → Nat
  | some ⟨_, .exp l⟩ => (l.map svFuel).sum
  | some ⟨_, .rows b⟩ => E.len b
  | none => 0

def fuelOf (vs : List (Option AV)) (H : Hp E) : Nat := ((vs.flatMap optSVs).map svFuel).sum + (H.map hbFuel).sum + 2 ^ 40

abbrev SlotT := List (Nat × List Nat × List Nat)

def slotsAt (id : Nat) : SlotT → List Nat × List Nat
  | [] => ([], [])
  | x :: l => cond (Nat.beq x.1 id) x.2 (slotsAt id l)

def LL (O : Orc E) (m n : Nat) (sl : SlotT) : {R : Type} → List (Nat × Code) → Nat → Fr → Hp E → (Ex → Fr → Hp E → Option R) → Option R
  | _, [], _, _, _, _ => none
  | _, (id, c) :: rest, j, F, H, K => cond (Nat.beq id j)
    (cond (Nat.beq F.length n) (viewK m (slotsAt id sl).1 F H fun vs H =>
      iterK O (fun {R} => LL O m n sl (R := R) rest) m n id (slotsAt id sl).1 (slotsAt id sl).2 c (fuelOf vs H) vs H fun ex vs H => K ex (unview n (slotsAt id sl).2 vs) H) none)
    (LL O m n sl rest j F H K)

def lookC (j : Nat) : List (Nat × Code) → Option Code
  | [] => none
  | (id, c) :: l => cond (Nat.beq id j) (some c) (lookC j l)

def TblOk : List (Nat × Code) → Prop
  | [] => True
  | e :: rest => (∀ p ∈ loopsOf e.2, lookC p.1 rest = some p.2) ∧ TblOk rest

theorem LL_ok (ok : EnvOk E) {O : Orc E} (hO : OrcOk O) {m n : Nat} {sl : SlotT} : ∀ (tbl : List (Nat × Code)), TblOk tbl → ∀ {R : Type} (j : Nat) (F : Fr) (H : Hp E) (K : Ex → Fr → Hp E → Option R) (r : R),
    LL O m n sl tbl j F H K = some r → ∃ c, lookC j tbl = some c ∧ ∃ ex F' H', K ex F' H' = some r ∧ CodeOk E m (.block j (.loop c)) F H ex F' H' := by
  intro tbl
  induction tbl with
  | nil => intro _ R j F H K r h; cases h
  | cons e rest ih =>
    intro ht R j F H K r h
    obtain ⟨id, c⟩ := e
    obtain ⟨h1, h2⟩ := ht
    unfold LL at h
    rcases cond_some h with ⟨hid, h'⟩ | ⟨hid, h'⟩ <;> clear h
    · have hidj : id = j := Nat.eq_of_beq_eq_true hid
      subst hidj
      obtain ⟨hn, h'⟩ := cond_none_right h'
      have hn := Nat.eq_of_beq_eq_true hn
      obtain ⟨vs, H1, h', hv⟩ := viewK_ok ok h'
      rw [hn] at hv
      have hLps : LpsOk E m (fun {R} => LL O m n sl (R := R) rest) (loopsOf c) := fun p hp {R} F H K r h => by
        obtain ⟨c', hc', hrest⟩ := ih h2 p.1 F H K r h
        rw [h1 p hp] at hc'
        cases hc'
        exact hrest
      obtain ⟨ex, vs', H', hK, hr⟩ := iterK_ok ok hO hLps _ vs H1 _ r h'
      refine ⟨c, by unfold lookC; rw [hid]; rfl, ex, _, H', hK, fun φ0 H0 w0 φ a w Q hl hm hI hF hq => ?_⟩
      obtain ⟨φ1, hI1, hF1⟩ := hv φ0 H0 w0 φ w a.tmps hl hm hI hF
      refine wp_block (wp_loop_rounds (fuelOf vs H1) ?_)
      exact hr φ0 H0 w0 φ1 a w Q hl hm hI1 hF1 hq
    · obtain ⟨c', hc', hrest⟩ := ih h2 j F H K r h'
      exact ⟨c', by unfold lookC; rw [hid]; exact hc', hrest⟩

/-- All loops of a code, the outer ones ahead of those in them. -/
def allLoops : Code → List (Nat × Code)
  | .seq a b => allLoops a ++ allLoops b
  | .cond _ a b => allLoops a ++ allLoops b
  | .block id (.loop c) => (id, c) :: allLoops c
  | .block _ c => allLoops c
  | _ => []

def Nested : List (Nat × Code) → Prop
  | [] => True
  | e :: l => (∀ p ∈ loopsOf e.2, p ∈ l) ∧ Nested l

theorem Nested.append : ∀ {a b : List (Nat × Code)}, Nested a → Nested b → Nested (a ++ b)
  | [], _, _, h => h
  | _ :: _, _, h, h' => ⟨fun p hp => List.mem_append_left _ (h.1 p hp), Nested.append h.2 h'⟩

theorem allLoops_block {id : Nat} {c : Code} (h : ∀ b, c ≠ .loop b) : allLoops (.block id c) = allLoops c ∧ loopsOf (.block id c) = loopsOf c := by
  cases c <;> first | exact ⟨rfl, rfl⟩ | exact absurd rfl (h _)

theorem allLoops_spec : ∀ (c : Code), (∀ p ∈ loopsOf c, p ∈ allLoops c) ∧ Nested (allLoops c) ∧ ∀ b, c = .loop b → (∀ p ∈ loopsOf b, p ∈ allLoops b) ∧ Nested (allLoops b)
  | .seq a b => by
    obtain ⟨a1, a2, _⟩ := allLoops_spec a
    obtain ⟨b1, b2, _⟩ := allLoops_spec b
    refine ⟨fun p hp => ?_, a2.append b2, fun _ e => by cases e⟩
    rcases List.mem_append.1 hp with h | h
    · exact List.mem_append_left _ (a1 p h)
    · exact List.mem_append_right _ (b1 p h)
  | .cond _ a b => by
    obtain ⟨a1, a2, _⟩ := allLoops_spec a
    obtain ⟨b1, b2, _⟩ := allLoops_spec b
    refine ⟨fun p hp => ?_, a2.append b2, fun _ e => by cases e⟩
    rcases List.mem_append.1 hp with h | h
    · exact List.mem_append_left _ (a1 p h)
    · exact List.mem_append_right _ (b1 p h)
  | .block id c => by
    obtain ⟨c1, c2, c3⟩ := allLoops_spec c
    by_cases hlp : ∃ b, c = .loop b
    · obtain ⟨b, rfl⟩ := hlp
      obtain ⟨b1, b2⟩ := c3 b rfl
      refine ⟨fun p hp => ?_, ⟨b1, b2⟩, fun _ e => by cases e⟩
      have hp : p ∈ [(id, b)] := hp
      rw [List.mem_singleton.1 hp]
      exact List.mem_cons_self
    · obtain ⟨e1, e2⟩ := allLoops_block (id := id) (c := c) (fun b e => hlp ⟨b, e⟩)
      rw [e1, e2]
      exact ⟨c1, c2, fun _ e => by cases e⟩
  | .loop c => by
    obtain ⟨c1, c2, _⟩ := allLoops_spec c
    refine ⟨fun p hp => (by cases hp), trivial, fun b e => (by cases e; exact ⟨c1, c2⟩)⟩
  | .skip => ⟨fun p hp => (by cases hp), trivial, fun _ e => (by cases e)⟩
  | .label _ => ⟨fun p hp => (by cases hp), trivial, fun _ e => (by cases e)⟩
  | .ret => ⟨fun p hp => (by cases hp), trivial, fun _ e => (by cases e)⟩
  | .exit _ => ⟨fun p hp => (by cases hp), trivial, fun _ e => (by cases e)⟩
  | .region _ _ _ => ⟨fun p hp => (by cases hp), trivial, fun _ e => (by cases e)⟩
  | .rangeFunc _ _ _ _ => ⟨fun p hp => (by cases hp), trivial, fun _ e => (by cases e)⟩
  | .scope _ => ⟨fun p hp => (by cases hp), trivial, fun _ e => (by cases e)⟩
  | .goto _ => ⟨fun p hp => (by cases hp), trivial, fun _ e => (by cases e)⟩
  | .refuse _ => ⟨fun p hp => (by cases hp), trivial, fun _ e => (by cases e)⟩

theorem lookC_mem : ∀ {l : List (Nat × Code)} {p : Nat × Code}, nodupB (l.map (·.1)) = true → p ∈ l → lookC p.1 l = some p.2
  | [], _, _, h => by cases h
  | (id, c) :: l, p, hn, h => by
    simp only [List.map_cons, nodupB, Bool.and_eq_true, Bool.not_eq_true'] at hn
    rcases List.mem_cons.1 h with rfl | h
    · simp [lookC, Nat.beq_refl]
    · unfold lookC
      have : Nat.beq id p.1 = false := by
        cases hb : Nat.beq id p.1 with
        | false => rfl
        | true =>
          have := Nat.eq_of_beq_eq_true hb
          have : (l.map (·.1)).any (Nat.beq id) = true := List.any_eq_true.2 ⟨p.1, List.mem_map.2 ⟨p, h, rfl⟩, hb⟩
          rw [hn.1] at this; cases this
      rw [this]
      exact lookC_mem hn.2 h

theorem tblOk_of : ∀ {l : List (Nat × Code)}, Nested l → nodupB (l.map (·.1)) = true → TblOk l
  | [], _, _ => trivial
  | e :: l, h, hn => by
    simp only [List.map_cons, nodupB, Bool.and_eq_true, Bool.not_eq_true'] at hn
    exact ⟨fun p hp => lookC_mem hn.2 (h.1 p hp), tblOk_of h.2 hn.2⟩
end
end Go.Eng
