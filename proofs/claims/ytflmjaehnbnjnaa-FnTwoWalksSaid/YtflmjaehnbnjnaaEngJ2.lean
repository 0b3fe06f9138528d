import Derived.Test.YtflmjaehnbnjnaaEngJ
set_option linter.all false
namespace Go.Eng
open Go Go.RowKit

section
variable {E : Env} {R : Type}

theorem ov_store (ok : EnvOk E) {H : Hp E} {id i : Nat} {a b a' : E.B} (hh : nth H id = some (some ⟨false, .rows a⟩)) (hbs : E.sz b = E.sz a) (hle : i + E.len b ≤ E.len a)
    (he : E.elt a' = E.elt a) (hs : E.sz a' = E.sz a) (hl : E.len a' = E.len a) (hc : E.cells a' = splice (E.cells a) (i * E.sz a) (E.cells b))
    {φ0 : List PE} {H0 : Hp E} {w0 : World} {φ : List PE} {w : World} (hl0 : φ0.length = H0.length) (hI : Inv φ0 H0 w0 φ H w) {L : Loc} (hL : nth φ id = some (.at L)) {news : List Value} (hnews : All2 (RS φ) (E.cells b) news) {off : Nat}
    (hoff : news = [] ∨ off = L.base + i * L.sz) : ∃ w', (storeCells ⟨L.b, off, none⟩ news 0).run E.P w = .ok () w' ∧ Inv φ0 H0 w0 φ (nset H id (some ⟨false, .rows a'⟩)) w' := by
  obtain ⟨he1, hh1, hb⟩ := hI.rh.at_ hL
  rw [hh] at hh1; cases hh1
  obtain ⟨⟨c, t, fz, h1, h2, h3, h4⟩, hfit⟩ := hb
  have hf : L.sz = E.sz a ∧ L.len = E.len a := hfit
  have hnl := hnews.length
  rw [ok.cells_len] at hnl
  have hbnd : i * E.sz a + (E.cells b).length ≤ (E.cells a).length := by
    rw [ok.cells_len, ok.cells_len, hbs, ← Nat.add_mul]
    exact Nat.mul_le_mul_right _ hle
  have hin : ∀ j s, nth (E.cells a) j = some s → ∃ v, c[L.base + j]? = some v ∧ RS φ s v := h3
  rcases hoff with h0 | hoff
  · subst h0
    have hb0 : E.cells b = [] := by have := hnews.length; simpa using this
    refine ⟨w, by simp [storeCells], ?_⟩
    refine hI.store (c := c) (t := t) (fz := fz) (b := .rows a') hl0 hL hh rfl h2 (fun j s hj => ?_) ⟨hf.1.trans hs.symm, hf.2.trans hl.symm⟩ ⟨fun _ => (h4 rfl).1 rfl, by
      have h5 := (h4 rfl).2
      exact ⟨h5.1.trans he.symm, h5.2⟩⟩ ⟨.refl _, rfl, fun _ _ => rfl, h1⟩
    have hj : nth (E.cells a') j = some s := hj
    rw [hc, hb0, splice_eq _ _ _ (by rw [hb0] at hbnd; exact hbnd)] at hj
    simp at hj
    exact hin j s hj
  · have hcs : off + news.length ≤ c.size ∨ news = [] := by
      cases hnn : news with
      | nil => exact .inr rfl
      | cons x xs =>
        left
        have hpos : 0 < news.length := by rw [hnn]; simp
        obtain ⟨s, hs⟩ := nth_some (l := E.cells a) (n := i * E.sz a + news.length - 1) (by have := hnews.length; omega)
        obtain ⟨v, hv, _⟩ := hin _ _ hs
        have := (Array.getElem?_eq_some_iff.1 hv).1
        rw [← hnn, hoff, hf.1]
        omega
    rcases hcs with hcs | h0
    · obtain ⟨w', c', hrun, ht, hcsz, hc'⟩ := run_storeCells' (P := E.P) news 0 w L.b off c t fz h1 hnews.one (by simpa using hcs) ((h4 rfl).1 rfl)
      refine ⟨w', hrun, hI.store (c := c') (t := t) (fz := fz) (b := .rows a') hl0 hL hh rfl (by rw [hcsz]; exact h2) (fun j s hj => ?_) ⟨hf.1.trans hs.symm, hf.2.trans hl.symm⟩ ⟨fun _ => by rw [hcsz]; exact (h4 rfl).1 rfl, by
        have h5 := (h4 rfl).2
        exact ⟨h5.1.trans he.symm, h5.2⟩⟩ ht⟩
      have hj : nth (E.cells a') j = some s := hj
      rw [hc, nth_splice _ _ _ hbnd] at hj
      have hll := hnews.length
      rw [hc']
      split at hj
      · obtain ⟨v, hv, hr⟩ := hnews.nth hj
        refine ⟨v, ?_, hr⟩
        rw [if_pos (by rw [hoff, hf.1]; omega), ← hv, hoff, hf.1]
        congr 1; omega
      · obtain ⟨v, hv, hr⟩ := hin _ _ hj
        refine ⟨v, ?_, hr⟩
        rw [if_neg (by rw [hoff, hf.1]; omega)]
        exact hv
    · subst h0
      have hb0 : E.cells b = [] := by have := hnews.length; simpa using this
      refine ⟨w, by simp [storeCells], ?_⟩
      refine hI.store (c := c) (t := t) (fz := fz) (b := .rows a') hl0 hL hh rfl h2 (fun j s hj => ?_) ⟨hf.1.trans hs.symm, hf.2.trans hl.symm⟩ ⟨fun _ => (h4 rfl).1 rfl, by
        have h5 := (h4 rfl).2
        exact ⟨h5.1.trans he.symm, h5.2⟩⟩ ⟨.refl _, rfl, fun _ _ => rfl, h1⟩
      have hj : nth (E.cells a') j = some s := hj
      rw [hc, hb0, splice_eq _ _ _ (by rw [hb0] at hbnd; exact hbnd)] at hj
      simp at hj
      exact hin j s hj

theorem ov_virt (ok : EnvOk E) {H : Hp E} {id i : Nat} {a b a' : E.B} (hh : nth H id = some (some ⟨false, .rows a⟩)) (hbs : E.sz b = E.sz a) (hle : i + E.len b ≤ E.len a)
    (hc : E.cells a' = splice (E.cells a) (i * E.sz a) (E.cells b)) {φ0 : List PE} {H0 : Hp E} {w0 : World} {φ : List PE} {w : World} (hI : Inv φ0 H0 w0 φ H w) (hV : nth φ id = some .virt) :
    E.len b = 0 ∧ Inv φ0 H0 w0 φ (nset H id (some ⟨false, .rows a'⟩)) w := by
  have hva := hI.rh.ent _ _ _ hV hh
  have hcv : E.cells a = [] := hva.1
  obtain ⟨inf, _, _, hpos⟩ := ok.info a
  have hla : E.len a = 0 := by
    have hl := ok.cells_len a
    rw [hcv] at hl
    rcases Nat.mul_eq_zero.1 hl.symm with h | h
    · exact h
    · omega
  have hlb : E.len b = 0 := by omega
  have hi0 : i = 0 := by omega
  have hcb : E.cells b = [] := List.eq_nil_of_length_eq_zero (by rw [ok.cells_len, hlb, Nat.zero_mul])
  have hca : E.cells a' = [] := by rw [hc, hcv, hcb, hi0]; simp [splice]
  refine ⟨hlb, ⟨by simp [hI.rh.len], fun k pe x hp hx => ?_, fun k j La Lb he' hne ha hb' hh' hro' => ?_⟩, hI.base, by simpa using hI.hle, fun k he0 h0 hr => ?_, fun k he' hk hh' => ?_, fun k he' hk hh' => ?_, hI.fresh, hI.calm, hI.size, hI.same⟩
  · rw [nth_nset] at hx
    split at hx
    · rename_i hki
      obtain ⟨rfl, _⟩ := hki
      rw [hV] at hp; cases hp
      cases hx
      exact ⟨hca, a', rfl⟩
    · exact hI.rh.ent k pe x hp hx
  · rw [nth_nset] at hh'
    split at hh'
    · rename_i hki
      obtain ⟨rfl, _⟩ := hki
      rw [hV] at ha; cases ha
    · exact hI.rh.inj k j La Lb he' hne ha hb' hh' hro'
  · rw [nth_nset]
    split
    · rename_i hki
      obtain ⟨rfl, _⟩ := hki
      have := hI.rosame _ he0 h0 hr
      rw [hh] at this; cases this; cases hr
    · exact hI.rosame k he0 h0 hr
  · rw [nth_nset] at hh'
    split at hh'
    · rename_i hki
      obtain ⟨rfl, _⟩ := hki
      cases hh'
      obtain ⟨he0, e1, e2⟩ := hI.robase _ _ hk hh
      exact ⟨he0, e1, e2⟩
    · exact hI.robase k he' hk hh'
  · rw [nth_nset] at hh'
    split at hh'
    · cases hh'; rfl
    · exact hI.newro k he' hk hh'

theorem ovHK_some (ok : EnvOk E) {H : Hp E} {id i : Nat} {b : E.B} {K : Hp E → Option R} {r : R} (h : ovHK E H id i b K = some r) :
    ∃ a a', nth H id = some (some ⟨false, .rows a⟩) ∧ K (nset H id (some ⟨false, .rows a'⟩)) = some r ∧ E.elt a' = E.elt a ∧ E.sz a' = E.sz a ∧ E.len a' = E.len a ∧ E.sz b = E.sz a ∧ i + E.len b ≤ E.len a ∧ E.cells a' = splice (E.cells a) (i * E.sz a) (E.cells b) := by
  unfold ovHK at h
  split at h
  · rename_i a hh
    obtain ⟨a', hK, h1, h2, h3, h4, h5, h6⟩ := ok.ovK _ _ _ _ _ h
    exact ⟨a, a', hh, hK, h1, h2, h3, h4, h5, h6⟩
  · cases h

theorem winK_ov (ok : EnvOk E) {H : Hp E} {id row n ex : Nat} {a b a' : E.B} {nl : Bool} {sv : Value} (hh : nth H id = some (some ⟨false, .rows a⟩)) (hbs : E.sz b = E.sz a) (he : E.elt a' = E.elt a) (hs : E.sz a' = E.sz a) (hl : E.len a' = E.len a) {k : Nat}
    (hle : row + k + E.len b ≤ E.len a) (hk : k + E.len b ≤ n + ex) (hc : E.cells a' = splice (E.cells a) ((row + k) * E.sz a) (E.cells b)) {φ0 : List PE} {H0 : Hp E} {w0 : World} {φ : List PE} {w : World} (hl0 : φ0.length = H0.length) (hI : Inv φ0 H0 w0 φ H w)
    (hs : SlcReal φ id row n ex nl sv) {news : List Value} (hnews : All2 (RS φ) (E.cells b) news) :
    (sv = .slice none 0 0 ∧ nl = true ∧ n = 0 ∧ ex = 0 ∧ E.len b = 0 ∧ news = [] ∧ Inv φ0 H0 w0 φ (nset H id (some ⟨false, .rows a'⟩)) w) ∨
    (∃ (L : Loc) (off cap : Nat) (w' : World), nl = false ∧ sv = .slice (some ⟨L.b, off, none⟩) n cap ∧ n + ex ≤ cap ∧ (storeCells ⟨L.b, off + k * E.sz a, none⟩ news 0).run E.P w = .ok () w' ∧ Inv φ0 H0 w0 φ (nset H id (some ⟨false, .rows a'⟩)) w') := by
  cases hs with
  | nil hv hφ hn hex hnl =>
    obtain ⟨h1, h2⟩ := ov_virt ok hh hbs hle hc hI hφ
    refine .inl ⟨hv, hnl, hn, hex, h1, ?_, h2⟩
    have hcb : E.cells b = [] := List.eq_nil_of_length_eq_zero (by rw [ok.cells_len, h1, Nat.zero_mul])
    rw [hcb] at hnews
    cases news with
    | nil => rfl
    | cons _ _ => exact hnews.elim
  | «at» L off cap hφ hv hcap ho hb hnl =>
    have hLsz : L.sz = E.sz a := by
      obtain ⟨he', hh', hb'⟩ := hI.rh.at_ hφ
      rw [hh] at hh'; cases hh'
      exact (hb'.fits : _ ∧ _).1
    obtain ⟨w', h1, h2⟩ := ov_store ok hh hbs hle he ‹_› hl hc hl0 hI hφ hnews (off := off + k * E.sz a) (by
      rcases ho with h0 | h0
      · left
        have hb0 : E.len b = 0 := by omega
        have hcb : E.cells b = [] := List.eq_nil_of_length_eq_zero (by rw [ok.cells_len, hb0, Nat.zero_mul])
        rw [hcb] at hnews
        cases news with
        | nil => rfl
        | cons _ _ => exact hnews.elim
      · right
        rw [h0, Nat.add_mul, hLsz]; omega)
    exact .inr ⟨L, off, cap, w', hnl, hv, hcap, h1, h2⟩
end
end Go.Eng
