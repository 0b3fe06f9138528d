import Derived.Test.YtflmjaehnbnjnaaEngL
set_option linter.all false
namespace Go.Eng
open Go Go.RowKit

section
variable {E : Env} {R : Type}

theorem handId_pre (id : Nat) (hs : List Hand) : ∃ t, (handId id hs).2 = hs ++ t := by
  unfold handId
  cases handAt id hs 0 with
  | some j => exact ⟨[], by simp⟩
  | none => exact ⟨_, rfl⟩
theorem handCaps_pre : ∀ (c : List (Nat × Nat × Nat)) (hs : List Hand), ∃ t, (handCaps c hs).2 = hs ++ t
  | [], hs => ⟨[], by simp [handCaps]⟩
  | (id, _, _) :: c, hs => by
    obtain ⟨t1, h1⟩ := handId_pre id hs
    obtain ⟨t2, h2⟩ := handCaps_pre c (handId id hs).2
    refine ⟨t1 ++ t2, ?_⟩
    simp only [handCaps]
    rw [h2, h1, List.append_assoc]
theorem handSV_pre {wd : Bool} (s : SV) (hs : List Hand) : ∃ t, (handSV wd s hs).2 = hs ++ t := by
  cases s with
  | ptr id row fld => exact handId_pre id hs
  | slc id w nl =>
    cases w with
    | none => exact handId_pre id hs
    | some w => cases wd with
      | true => exact handId_pre id hs
      | false => exact ⟨_, rfl⟩
  | fn f caps => exact handCaps_pre caps hs
  | _ => exact ⟨[], by simp [handSV]⟩
theorem handSVs_pre {wd : Bool} : ∀ (l : List SV) (hs : List Hand), ∃ t, (handSVs wd l hs).2 = hs ++ t
  | [], hs => ⟨[], by simp [handSVs]⟩
  | s :: l, hs => by
    obtain ⟨t1, h1⟩ := handSV_pre (wd := wd) s hs
    obtain ⟨t2, h2⟩ := handSVs_pre (wd := wd) l (handSV wd s hs).2
    refine ⟨t1 ++ t2, ?_⟩
    simp only [handSVs]
    rw [h2, h1, List.append_assoc]

theorem RS.plain {s : SV} {φ φ' : List PE} {v : Value} (hp : s.plain = true) (h : RS φ s v) : RS φ' s v := by
  cases s <;> first | exact h | (simp [SV.plain] at hp)

theorem nth_mem {α : Type} {l : List α} {n : Nat} {x : α} (h : nth l n = some x) : x ∈ l := by
  rw [nth_eq] at h
  exact List.mem_of_getElem? h

def EntC (H : Hp E) (fro : Bool) (φ : List PE) (w : World) (h : Hand) (pe : PE) (x : Option (HE E)) : Prop :=
  Ent φ w pe x ∧ ∀ he, x = some he → (he.ro = false ↔ wrB E H fro h = true)

theorem Ent.ext {φ φ' : List PE} {w : World} {pe : PE} {x : Option (HE E)} (h : Ent φ w pe x) (e : Ext φ φ') : Ent φ' w pe x := by
  cases pe <;> cases x <;> first | exact h | exact RB.mono h e rfl
theorem EntC.ext {H : Hp E} {fro : Bool} {φ φ' : List PE} {w : World} {h : Hand} {pe : PE} {x : Option (HE E)} (hh : EntC H fro φ w h pe x) (e : Ext φ φ') : EntC H fro φ' w h pe x := ⟨hh.1.ext e, hh.2⟩

theorem nth_app_inv {α : Type} {l m : List α} {n : Nat} {x : α} (h : nth (l ++ m) n = some x) (hn : n < l.length) : nth l n = some x := by
  rw [nth_append, if_pos hn] at h; exact h

theorem packK_ok {wd : Bool} (ok : EnvOk E) {H : Hp E} {fro : Bool} : ∀ (fuel j : Nat) (hs : List Hand) (acc : Hp E) (K : List Hand → Hp E → Option R) (r : R), packK E wd H fro fuel j hs acc K = some r → acc.length = j → j ≤ hs.length →
    ∃ hs' Hc, K hs' Hc = some r ∧ Hc.length = hs'.length ∧ (∃ t, hs' = hs ++ t) ∧ ∀ (φ : List PE) (w : World) (φc : List PE), RH φ H w → HandsNd hs → All2 (HandRel φ) hs φc →
      (∀ k x h pe, nth acc k = some x → nth hs k = some h → nth φc k = some pe → EntC H fro φc w h pe x) →
      ∃ ext, HandsNd hs' ∧ All2 (HandRel φ) hs' (φc ++ ext) ∧ ∀ k x h pe, nth Hc k = some x → nth hs' k = some h → nth (φc ++ ext) k = some pe → EntC H fro (φc ++ ext) w h pe x := by
  intro fuel
  induction fuel with
  | zero => intro j hs acc K r h; cases h
  | succ fuel ih =>
    intro j hs acc K r h hacc hj
    unfold packK at h
    split at h
    · rename_i hn
      have : hs.length ≤ j := by
        rcases Nat.lt_or_ge j hs.length with h' | h'
        · obtain ⟨x, hx⟩ := nth_some h'; rw [hn] at hx; cases hx
        · exact h'
      exact ⟨hs, acc, h, by omega, ⟨[], by simp⟩, fun φ w φc hr hnd hc hent => ⟨[], hnd, by simpa using hc, by simpa using hent⟩⟩
    · rename_i hd hhd
      have hjlt := nth_lt hhd
      -- one entry more
      have step : ∀ (hs2 : List Hand) (x0 : Option (HE E)), (∃ t, hs2 = hs ++ t) → packK E wd H fro fuel (j + 1) hs2 (acc ++ [x0]) K = some r →
          (∀ (φ : List PE) (w : World) (φc : List PE), RH φ H w → HandsNd hs → All2 (HandRel φ) hs φc → ∃ ext, HandsNd hs2 ∧ All2 (HandRel φ) hs2 (φc ++ ext) ∧ ∀ pe, nth φc j = some pe → HandRel φ hd pe → EntC H fro (φc ++ ext) w hd pe x0) →
          ∃ hs' Hc, K hs' Hc = some r ∧ Hc.length = hs'.length ∧ (∃ t, hs' = hs ++ t) ∧ ∀ (φ : List PE) (w : World) (φc : List PE), RH φ H w → HandsNd hs → All2 (HandRel φ) hs φc →
            (∀ k x h pe, nth acc k = some x → nth hs k = some h → nth φc k = some pe → EntC H fro φc w h pe x) →
            ∃ ext, HandsNd hs' ∧ All2 (HandRel φ) hs' (φc ++ ext) ∧ ∀ k x h pe, nth Hc k = some x → nth hs' k = some h → nth (φc ++ ext) k = some pe → EntC H fro (φc ++ ext) w h pe x := by
        intro hs2 x0 ⟨t, ht⟩ h2 hgo
        have hl2 : hs.length ≤ hs2.length := by rw [ht]; simp
        obtain ⟨hs', Hc, hK, hlen, ⟨t', ht'⟩, hq⟩ := ih (j + 1) hs2 (acc ++ [x0]) K r h2 (by simp; omega) (by omega)
        refine ⟨hs', Hc, hK, hlen, ⟨t ++ t', by rw [ht', ht, List.append_assoc]⟩, fun φ w φc hr hnd hc hent => ?_⟩
        obtain ⟨e1, hnd2, hc2, hx0⟩ := hgo φ w φc hr hnd hc
        have hcl := hc.length
        obtain ⟨e2, hnd3, hc3, hent3⟩ := hq φ w (φc ++ e1) hr hnd2 hc2 (fun k x h pe hk hh hpe => by
          rcases nth_push_cases hk with ⟨hklt, hk⟩ | ⟨hkeq, rfl⟩
          · rw [ht] at hh
            exact (hent k x h pe hk (nth_app_inv hh (by omega)) (nth_app_inv hpe (by omega))).ext (.push _ _)
          · rw [hacc] at hkeq
            subst hkeq
            rw [ht] at hh
            have hh := nth_app_inv hh hjlt
            rw [hhd] at hh; cases hh
            have hpe := nth_app_inv hpe (by omega)
            obtain ⟨pe', h3, h4⟩ := handRel_nth hc hhd
            rw [hpe] at h3; cases h3
            exact hx0 pe hpe h4)
        exact ⟨e1 ++ e2, hnd3, by rw [← List.append_assoc]; exact hc3, by rw [← List.append_assoc]; exact hent3⟩
      split at h
      · -- dead
        rename_i hH
        refine step hs none ⟨[], by simp⟩ h fun φ w φc hr hnd hc => ⟨[], hnd, by simpa using hc, fun pe hpe hrel => ⟨?_, fun he e => by cases e⟩⟩
        obtain ⟨pe0, hpe0⟩ := nth_some (l := φ) (n := hd.id) (by have := nth_lt hH; have := hr.len; omega)
        have := hr.ent hd.id pe0 none hpe0 hH
        have hdead : pe0 = .dead := by cases pe0 <;> first | rfl | exact this.elim
        subst hdead
        have : pe = .dead := by
          unfold HandRel at hrel
          split at hrel
          · obtain ⟨hrel, _⟩ := hrel; rw [hpe0] at hrel; cases hrel; rfl
          · rw [hpe0] at hrel; exact hrel
        subst this
        trivial
      · rename_i he hH
        split at h
        · -- cells
          rename_i ty l hw hb
          obtain ⟨t, ht⟩ := handSVs_pre (wd := wd) l hs
          refine step _ _ ⟨t, ht⟩ h fun φ w φc hr hnd hc => ?_
          obtain ⟨L, hL, hrb⟩ : ∃ L, nth φ hd.id = some (.at L) ∧ RB φ he L w := by
            rcases hr.some_ hH with ⟨L, hL, hrb⟩ | ⟨_, _, b, hbb⟩ | hL
            · exact ⟨L, hL, hrb⟩
            · rw [hb] at hbb; cases hbb
            · obtain ⟨pe', _, hrel⟩ := handRel_nth hc hhd
              unfold HandRel at hrel
              rw [hw] at hrel
              obtain ⟨hrel, hna⟩ := hrel
              rw [hL] at hrel; cases hrel
              exact absurd rfl hna
          obtain ⟨⟨c, t0, fz, h1, h2, h3, h4⟩, hf⟩ := hrb
          rw [hb] at h3
          obtain ⟨vs, hvs, hcv⟩ : ∃ vs, All2 (RS φ) l vs ∧ ∀ k v, vs[k]? = some v → c[L.base + k]? = some v := by
            rcases Nat.eq_zero_or_pos l.length with h0 | hpos
            · have : l = [] := List.eq_nil_of_length_eq_zero h0
              subst this
              exact ⟨[], trivial, fun k v hv => by simp at hv⟩
            · have hbd : L.base + l.length ≤ c.size := by
                obtain ⟨s, hs⟩ := nth_some (l := l) (n := l.length - 1) (by omega)
                obtain ⟨v, hv, _⟩ := h3 _ s hs
                have := (Array.getElem?_eq_some_iff.1 hv).1
                omega
              refine ⟨_, extract_all2 (φ := φ) (l := l) (c := c) (o := L.base) hbd (fun j s hs => h3 j s hs), fun k v hv => ?_⟩
              rw [Array.getElem?_toList, Array.getElem?_extract] at hv
              split at hv
              · exact hv
              · cases hv
          obtain ⟨a1, a2⟩ := handSVs_ok (wd := wd) l hs vs hvs
          obtain ⟨e1, c1, c2⟩ := a2 φc hc
          refine ⟨e1, a1 hnd, c1, fun pe hpe hrel => ?_⟩
          have hpeL : pe = .at L := by
            unfold HandRel at hrel
            rw [hw] at hrel
            obtain ⟨hrel, _⟩ := hrel
            rw [hL] at hrel; cases hrel; rfl
          subst hpeL
          refine ⟨⟨⟨c, t0, fz, h1, h2, fun k s hs => ?_, fun hro => ?_⟩, trivial⟩, fun he' e => ?_⟩
          · obtain ⟨v, hv, hr⟩ := c2.nth hs
            exact ⟨v, hcv k v hv, hr⟩
          · simp only [Bool.or_eq_false_iff] at hro
            refine ⟨fun _ => (h4 hro.2).1 (by rw [hb]; rfl), ?_⟩
            have h5 := (h4 hro.2).2
            rw [hb] at h5
            cases ty with
            | none => trivial
            | some T => exact ⟨h5.1, h5.2.1, h5.2.2.trans (hvs.length.trans c2.length.symm)⟩
          · cases e
            simp [wrB, hw, hH]
        · -- rows
          rename_i b hw hb
          refine step hs _ ⟨[], by simp⟩ h fun φ w φc hr hnd hc => ⟨[], hnd, by simpa using hc, fun pe hpe hrel => ⟨?_, fun he' e => ?_⟩⟩
          · obtain ⟨hpe0, hna⟩ : nth φ hd.id = some pe ∧ pe ≠ .abs := by
              unfold HandRel at hrel
              rw [hw] at hrel; exact hrel
            have := hr.ent _ _ _ hpe0 hH
            cases pe with
            | dead => exact this.elim
            | abs => exact absurd rfl hna
            | virt =>
              obtain ⟨h1, _⟩ := this
              rw [hb] at h1
              exact ⟨h1, b, rfl⟩
            | «at» L =>
              obtain ⟨⟨c, t0, fz, h1, h2, h3, h4⟩, hf⟩ := this
              rw [hb] at h3 hf
              refine ⟨⟨c, t0, fz, h1, h2, fun k s hs => ?_, fun hro => ?_⟩, hf⟩
              · obtain ⟨v, hv, hr⟩ := h3 k s hs
                exact ⟨v, hv, hr.plain (ok.plain b s (nth_mem hs))⟩
              · simp only [Bool.or_eq_false_iff] at hro
                exact ⟨fun _ => (h4 hro.2).1 (by rw [hb]; rfl), by have h5 := (h4 hro.2).2; rw [hb] at h5; exact h5⟩
          · cases e
            simp [wrB, hw, hH]
        · -- frozen rows
          rename_i b hw hb
          refine step hs _ ⟨[], by simp⟩ h fun φ w φc hr hnd hc => ⟨[], hnd, by simpa using hc, fun pe hpe hrel => ⟨?_, fun he' e => ?_⟩⟩
          · obtain ⟨hpe0, hna⟩ : nth φ hd.id = some pe ∧ pe ≠ .abs := by
              unfold HandRel at hrel
              rw [hw] at hrel; exact hrel
            have := hr.ent _ _ _ hpe0 hH
            cases pe with
            | dead => exact this.elim
            | abs => exact absurd rfl hna
            | virt =>
              obtain ⟨_, b2, h1⟩ := this
              rw [hb] at h1
              cases h1
            | «at» L =>
              obtain ⟨⟨c, t0, fz, h1, h2, h3, h4⟩, hf⟩ := this
              rw [hb] at h3 hf
              refine ⟨⟨c, t0, fz, h1, h2, fun k s hs => ?_, fun hro => ?_⟩, hf⟩
              · obtain ⟨v, hv, hr⟩ := h3 k s hs
                exact ⟨v, hv, hr.plain (ok.plain b s (nth_mem hs))⟩
              · simp only [Bool.or_eq_false_iff] at hro
                exact ⟨fun e => (by cases e), by have h5 := (h4 hro.2).2; rw [hb] at h5; exact h5⟩
          · cases e
            simp [wrB, hw, hH]
        · -- a view
          rename_i rr n ee b hw hb
          obtain ⟨b', h, _, hsz, hlen, hle, hcb⟩ := ok.subK _ _ _ _ _ h
          refine step hs _ ⟨[], by simp⟩ h fun φ w φc hr hnd hc => ⟨[], hnd, by simpa using hc, fun pe hpe hrel => ⟨?_, fun he' e => ?_⟩⟩
          · unfold HandRel at hrel
            rw [hw] at hrel
            rcases hr.some_ hH with ⟨L, hL, hrb⟩ | ⟨hL, hcv, _⟩ | hL
            · simp only [hL] at hrel
              obtain ⟨off, cap, rfl, h5, h6, h7⟩ := hrel
              obtain ⟨⟨c, t0, fz, h1, h2, h3, h4⟩, hf⟩ := hrb
              rw [hb] at h3 hf
              refine ⟨⟨c, t0, fz, h1, h2, fun k s hs => ?_, fun hro => by cases hro⟩, ⟨hf.1.trans hsz.symm, hlen.symm⟩⟩
              have hs : nth (E.cells b') k = some s := hs
              rw [hcb, nth_seg] at hs
              split at hs
              · rename_i hk
                obtain ⟨v, hv, hr⟩ := h3 _ _ hs
                refine ⟨v, ?_, hr.plain (ok.plain b s (nth_mem hs))⟩
                have hn : n ≠ 0 := fun e => by subst e; simp at hk
                have hoff : off = L.base + rr * L.sz := by
                  rcases h6 with h6 | h6
                  · omega
                  · exact h6
                simp only []
                rw [hoff, hf.1, ← hv]
                congr 1; omega
              · cases hs
            · simp only [hL] at hrel
              obtain ⟨rfl, hn⟩ := hrel
              refine ⟨?_, b', rfl⟩
              show E.cells b' = []
              apply List.eq_nil_of_length_eq_zero
              rw [ok.cells_len, hlen, hn, Nat.zero_mul]
            · simp only [hL] at hrel
          · cases e
            simp [wrB, hw]
        · cases h
        · cases h
      · cases h
end
end Go.Eng
