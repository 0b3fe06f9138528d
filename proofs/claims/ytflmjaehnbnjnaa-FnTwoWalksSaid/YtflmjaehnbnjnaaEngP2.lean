import Derived.Test.YtflmjaehnbnjnaaEngP
import Derived.ScopeJumps
set_option linter.all false
namespace Go.Eng
open Go Go.RowKit

section
variable {E : Env} {R : Type}

def evalTop (O : Orc E) (L : Lps E) (J : JT) : Code → Fr → Hp E → (Ex → Fr → Hp E → Option R) → Option R
  | .seq a b, F, H, K => evalCode E O L J a F H fun ex F H => match ex with
    | .normal => evalTop O L J b F H K
    | ex => K ex F H
  | .scope c, F, H, K => cond (plainC c) (evalCode E O L J c F H fun ex F H => match ex with
    | .goto l => match findLabel c l with
      | some rest => cond (plainC rest) (evalCode E O L J rest F H fun ex F H => match ex with
        | .goto _ => none
        | ex => K ex F H) none
      | none => none
    | ex => K ex F H) none
  | c, F, H, K => evalCode E O L J c F H K

theorem evalTop_ok (ok : EnvOk E) (hD : DrawOk E) {O : Orc E} (hO : OrcOk O) {J : JT} (hJ : JOk J) {L : Lps E} {m : Nat} : ∀ (c : Code), LpsOk E m L (loopsOf c) → ∀ (F : Fr) (H : Hp E) (K : Ex → Fr → Hp E → Option R) (r : R),
    evalTop O L J c F H K = some r → ∃ ex F' H', K ex F' H' = some r ∧ CodeOk E m c F H ex F' H' := by
  intro c
  induction c with
  | seq a b iha ihb =>
    intro hL F H K r h
    unfold evalTop at h
    obtain ⟨ex, F1, H1, h, ha⟩ := evalCode_ok ok hD hO hJ a (fun p hp => hL p (List.mem_append_left _ hp)) F H _ r h
    cases ex with
    | normal =>
      obtain ⟨ex2, F2, H2, hK, hb⟩ := ihb (fun p hp => hL p (List.mem_append_right _ hp)) F1 H1 K r h
      refine ⟨ex2, F2, H2, hK, fun φ0 H0 w0 φ ac w Q hl hm hI hF hq => wp_seq (ha φ0 H0 w0 φ ac w _ hl hm hI hF fun φ' a' w' hI' hF' hd hk => ?_)⟩
      exact hb φ0 H0 w0 φ' a' w' Q hl hm hI' hF' fun φ2 a2 w2 hI2 hF2 hd2 hk2 => hq φ2 a2 w2 hI2 hF2 (hd2.trans hd) fun hp t ht => by
        simp only [plainC, Bool.and_eq_true] at hp
        simp only [wrC, List.mem_append, not_or] at ht
        exact (hk2 hp.2 t ht.2).trans (hk hp.1 t ht.1)
    | exit n => exact ⟨.exit n, F1, H1, h, fun φ0 H0 w0 φ ac w Q hl hm hI hF hq => wp_seq (ha φ0 H0 w0 φ ac w _ hl hm hI hF fun φ' a' w' hI' hF' hd hk => hq φ' a' w' hI' hF' hd fun hp t ht => by
        simp only [plainC, Bool.and_eq_true] at hp
        simp only [wrC, List.mem_append, not_or] at ht
        exact hk hp.1 t ht.1)⟩
    | goto n => exact ⟨.goto n, F1, H1, h, fun φ0 H0 w0 φ ac w Q hl hm hI hF hq => wp_seq (ha φ0 H0 w0 φ ac w _ hl hm hI hF fun φ' a' w' hI' hF' hd hk => hq φ' a' w' hI' hF' hd fun hp t ht => by
        simp only [plainC, Bool.and_eq_true] at hp
        simp only [wrC, List.mem_append, not_or] at ht
        exact hk hp.1 t ht.1)⟩
    | ret => exact ⟨.ret, F1, H1, h, fun φ0 H0 w0 φ ac w Q hl hm hI hF hq => wp_seq (ha φ0 H0 w0 φ ac w _ hl hm hI hF fun φ' a' w' hI' hF' hd hk => hq φ' a' w' hI' hF' hd fun hp t ht => by
        simp only [plainC, Bool.and_eq_true] at hp
        simp only [wrC, List.mem_append, not_or] at ht
        exact hk hp.1 t ht.1)⟩
  | scope c _ =>
    intro _ F H K r h
    unfold evalTop at h
    obtain ⟨hpl, h⟩ := cond_none_right h
    have hLc : ∀ {d : Code}, plainC d = true → LpsOk E m L (loopsOf d) := fun hd => by rw [plain_loops hd]; exact fun p hp => by cases hp
    obtain ⟨ex, F1, H1, h, hc⟩ := evalCode_ok ok hD hO hJ c (hLc hpl) F H _ r h
    have straight : ∀ (hng : ∀ l, ex ≠ .goto l), CodeOk E m (.scope c) F H ex F1 H1 := fun hng φ0 H0 w0 φ ac w Q hl hm hI hF hq => by
      refine wp_scope_straight (hc φ0 H0 w0 φ ac w _ hl hm hI hF fun φ' a' w' hI' hF' hd hk => ?_)
      have := hq φ' a' w' hI' hF' hd (fun h => by cases h)
      cases ex with
      | goto l => exact absurd rfl (hng l)
      | _ => exact this
    cases ex with
    | normal => exact ⟨_, F1, H1, h, straight (fun l e => by cases e)⟩
    | exit n => exact ⟨_, F1, H1, h, straight (fun l e => by cases e)⟩
    | ret => exact ⟨_, F1, H1, h, straight (fun l e => by cases e)⟩
    | goto l =>
      simp only at h
      split at h
      · rename_i rest hrest
        obtain ⟨hpr, h⟩ := cond_none_right h
        obtain ⟨ex2, F2, H2, h, hr⟩ := evalCode_ok ok hD hO hJ rest (hLc hpr) F1 H1 _ r h
        have jump : (∀ l, ex2 ≠ .goto l) → CodeOk E m (.scope c) F H ex2 F2 H2 := fun hng φ0 H0 w0 φ ac w Q hl hm hI hF hq => by
          refine wp_scope_jumps l (fun a' w' => ∃ φ', Inv φ0 H0 w0 φ' H1 w' ∧ RF φ' F1 a'.tmps ∧ a'.defers = ac.defers) (fun _ _ => 0) hrest (hc φ0 H0 w0 φ ac w _ hl hm hI hF fun φ' a' w' hI' hF' hd _ => ⟨rfl, φ', hI', hF', hd⟩) ?_
          rintro a' w' ⟨φ', hI', hF', hd⟩
          refine hr φ0 H0 w0 φ' a' w' _ hl hm hI' hF' fun φ2 a2 w2 hI2 hF2 hd2 _ => ?_
          have := hq φ2 a2 w2 hI2 hF2 (hd2.trans hd) (fun h => by cases h)
          cases ex2 with
          | goto l => exact absurd rfl (hng l)
          | _ => exact this
        cases ex2 with
        | goto l2 => cases h
        | normal => exact ⟨_, F2, H2, h, jump (fun l e => by cases e)⟩
        | exit n => exact ⟨_, F2, H2, h, jump (fun l e => by cases e)⟩
        | ret => exact ⟨_, F2, H2, h, jump (fun l e => by cases e)⟩
      · cases h
  | skip => exact fun hL F H K r h => evalCode_ok ok hD hO hJ _ hL F H K r h
  | region _ _ _ => exact fun hL F H K r h => evalCode_ok ok hD hO hJ _ hL F H K r h
  | cond _ _ _ _ _ => exact fun hL F H K r h => evalCode_ok ok hD hO hJ _ hL F H K r h
  | block _ _ _ => exact fun hL F H K r h => evalCode_ok ok hD hO hJ _ hL F H K r h
  | loop _ _ => exact fun hL F H K r h => evalCode_ok ok hD hO hJ _ hL F H K r h
  | exit _ => exact fun hL F H K r h => evalCode_ok ok hD hO hJ _ hL F H K r h
  | label _ => exact fun hL F H K r h => evalCode_ok ok hD hO hJ _ hL F H K r h
  | goto _ => exact fun hL F H K r h => evalCode_ok ok hD hO hJ _ hL F H K r h
  | ret => exact fun hL F H K r h => evalCode_ok ok hD hO hJ _ hL F H K r h
  | rangeFunc _ _ _ _ _ _ => exact fun hL F H K r h => evalCode_ok ok hD hO hJ _ hL F H K r h
  | refuse _ => exact fun hL F H K r h => evalCode_ok ok hD hO hJ _ hL F H K r h
end
end Go.Eng
