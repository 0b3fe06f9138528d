import Derived.Test.YtflmjaehnbnjnaaEngK
set_option linter.all false
namespace Go.Eng
open Go Go.RowKit

section
variable {α β : Type}
theorem backL_length (upd : Hand → Bool) (g : α → β) : ∀ (hs : List Hand) (xs : List α) (l : List β), hs.length ≤ xs.length → (backL upd g hs xs l).length = l.length + (xs.length - hs.length) := by
  intro hs
  induction hs with
  | nil => intro xs l _; simp [backL]
  | cons h hs ih =>
    intro xs l hl
    cases xs with
    | nil => simp at hl
    | cons x xs =>
      simp only [backL]
      rw [ih xs _ (by simpa using hl)]
      cases upd h <;> simp
theorem backL_new (upd : Hand → Bool) (g : α → β) : ∀ (hs : List Hand) (xs : List α) (l : List β) (k : Nat), hs.length ≤ k → hs.length ≤ xs.length → nth (backL upd g hs xs l) (l.length + (k - hs.length)) = (nth xs k).map g := by
  intro hs
  induction hs with
  | nil =>
    intro xs l k _ _
    simp only [backL, List.length_nil, Nat.sub_zero]
    rw [nth_append, if_neg (by omega), nth_map]
    congr 2; omega
  | cons h hs ih =>
    intro xs l k hk hl
    cases xs with
    | nil => simp at hl
    | cons x xs =>
      obtain ⟨k, rfl⟩ : ∃ k', k = k' + 1 := ⟨k - 1, by simp at hk; omega⟩
      simp only [backL, nth]
      have := ih xs (cond (upd h) (nset l h.id (g x)) l) k (by simpa using hk) (by simpa using hl)
      have hlen : (cond (upd h) (nset l h.id (g x)) l).length = l.length := by cases upd h <;> simp
      rw [hlen] at this
      rw [← this]
      congr 1
      simp
theorem backL_old (upd : Hand → Bool) (g : α → β) : ∀ (hs : List Hand) (xs : List α) (l : List β), hs.length ≤ xs.length →
    (∀ i j a b, i ≠ j → nth hs i = some a → nth hs j = some b → upd a = true → upd b = true → a.id ≠ b.id) → ∀ i, i < l.length →
    (∃ j h, nth hs j = some h ∧ upd h = true ∧ h.id = i ∧ nth (backL upd g hs xs l) i = (nth xs j).map g) ∨ ((∀ j h, nth hs j = some h → upd h = true → h.id ≠ i) ∧ nth (backL upd g hs xs l) i = nth l i) := by
  intro hs
  induction hs with
  | nil =>
    intro xs l _ _ i hi
    right
    refine ⟨fun j h hj => by simp [nth] at hj, ?_⟩
    simp only [backL]
    rw [nth_append, if_pos hi]
  | cons h hs ih =>
    intro xs l hl hnd i hi
    cases xs with
    | nil => simp at hl
    | cons x xs =>
      simp only [backL]
      have hlen : (cond (upd h) (nset l h.id (g x)) l).length = l.length := by cases upd h <;> simp
      rcases ih xs (cond (upd h) (nset l h.id (g x)) l) (by simpa using hl) (fun i j a b hne hi hj ha hb => hnd (i + 1) (j + 1) a b (by omega) hi hj ha hb) i (by rw [hlen]; exact hi) with ⟨j, h', hj, hu, hid, hr⟩ | ⟨hno, hr⟩
      · exact .inl ⟨j + 1, h', hj, hu, hid, hr⟩
      · by_cases hh : upd h = true ∧ h.id = i
        · obtain ⟨hu, hid⟩ := hh
          refine .inl ⟨0, h, rfl, hu, hid, ?_⟩
          rw [hr, hu]
          simp only [cond_true, nth]
          rw [nth_nset, if_pos ⟨hid.symm, by omega⟩]; rfl
        · refine .inr ⟨fun j h' hj hu => ?_, ?_⟩
          · cases j with
            | zero => cases hj; exact fun e => hh ⟨hu, e⟩
            | succ j => exact hno j h' hj hu
          · rw [hr]
            cases hu : upd h with
            | false => rfl
            | true =>
              simp only [cond_true]
              rw [nth_nset, if_neg (fun e => hh ⟨hu, e.1.symm⟩)]
end

section
variable {E : Env} {R : Type}

def HandRel (φ : List PE) (h : Hand) (pe : PE) : Prop :=
  match h.w with
  | none => nth φ h.id = some pe ∧ pe ≠ .abs
  | some (r, n, e) => match nth φ h.id with
    | some .dead => pe = .dead
    | some .virt => pe = .virt ∧ n = 0
    | some (.at L) => ∃ off cap, pe = .at ⟨L.b, off, L.n, L.sz, n⟩ ∧ n + e ≤ cap ∧ (cap = 0 ∨ off = L.base + r * L.sz) ∧ off + cap * L.sz ≤ L.n
    | some .abs => False
    | none => False

theorem HandRel.dead' {φ : List PE} {id : Nat} {w : Nat × Nat × Nat} (h : nth φ id = some .dead) : HandRel φ ⟨id, some w⟩ .dead := by
  show (match nth φ id with | some .dead => _ | some .virt => _ | some (.at L) => _ | some .abs => False | none => False)
  rw [h]
theorem HandRel.virt' {φ : List PE} {id r n e : Nat} (h : nth φ id = some .virt) (hn : n = 0) : HandRel φ ⟨id, some (r, n, e)⟩ .virt := by
  unfold HandRel
  simp only [h]
  exact ⟨trivial, hn⟩
theorem HandRel.at' {φ : List PE} {id r n e off cap : Nat} {L : Loc} (h : nth φ id = some (.at L)) (h3 : n + e ≤ cap) (h4 : cap = 0 ∨ off = L.base + r * L.sz) (h5 : off + cap * L.sz ≤ L.n) :
    HandRel φ ⟨id, some (r, n, e)⟩ (.at ⟨L.b, off, L.n, L.sz, n⟩) := by
  unfold HandRel
  simp only [h]
  exact ⟨off, cap, rfl, h3, h4, h5⟩

theorem handAt_some {h : Nat} : ∀ {hs : List Hand} {i j : Nat}, handAt h hs i = some j → i ≤ j ∧ nth hs (j - i) = some ⟨h, none⟩ := by
  intro hs
  induction hs with
  | nil => intro i j e; cases e
  | cons x hs ih =>
    intro i j e
    unfold handAt at e
    cases hb : (Nat.beq x.id h && x.w.isNone) with
    | true =>
      rw [hb] at e
      cases e
      simp only [Bool.and_eq_true] at hb
      refine ⟨Nat.le_refl _, ?_⟩
      rw [Nat.sub_self]
      obtain ⟨id, w⟩ := x
      have h1 : id = h := Nat.eq_of_beq_eq_true hb.1
      have h2 : w = none := by simpa using hb.2
      subst h1; subst h2; rfl
    | false =>
      rw [hb] at e
      obtain ⟨h1, h2⟩ := ih e
      refine ⟨by omega, ?_⟩
      obtain ⟨k, hk⟩ : ∃ k, j - i = k + 1 := ⟨j - i - 1, by omega⟩
      rw [hk]
      rw [show j - (i + 1) = k from by omega] at h2
      exact h2

theorem handAt_none {h : Nat} : ∀ {hs : List Hand} {i : Nat}, handAt h hs i = none → ∀ j, nth hs j ≠ some ⟨h, none⟩ := by
  intro hs
  induction hs with
  | nil => intro i _ j e; simp [nth] at e
  | cons x hs ih =>
    intro i e j
    unfold handAt at e
    cases hb : (Nat.beq x.id h && x.w.isNone) with
    | true => rw [hb] at e; cases e
    | false =>
      rw [hb] at e
      cases j with
      | zero =>
        intro hx
        simp [nth] at hx
        subst hx
        simp at hb
      | succ j => exact ih e j

def HandsNd (hs : List Hand) : Prop := ∀ i j id, nth hs i = some ⟨id, none⟩ → nth hs j = some ⟨id, none⟩ → i = j

theorem HandsNd.push {hs : List Hand} (h : HandsNd hs) {id : Nat} (hn : ∀ j, nth hs j ≠ some ⟨id, none⟩) : HandsNd (hs ++ [⟨id, none⟩]) := by
  intro i j k hi hj
  rcases nth_push_cases hi with ⟨_, hi⟩ | ⟨hi1, hi⟩ <;> rcases nth_push_cases hj with ⟨_, hj⟩ | ⟨hj1, hj⟩
  · exact h i j k hi hj
  · cases hj; exact absurd hi (hn i)
  · cases hi; exact absurd hj (hn j)
  · omega
theorem HandsNd.pushW {hs : List Hand} (h : HandsNd hs) {id : Nat} {w : Nat × Nat × Nat} : HandsNd (hs ++ [⟨id, some w⟩]) := by
  intro i j k hi hj
  rcases nth_push_cases hi with ⟨_, hi⟩ | ⟨hi1, hi⟩ <;> rcases nth_push_cases hj with ⟨_, hj⟩ | ⟨hj1, hj⟩
  · exact h i j k hi hj
  · cases hj
  · cases hi
  · cases hj

theorem All2.push {p : Hand → PE → Prop} {l : List Hand} {m : List PE} (h : All2 p l m) {a : Hand} {b : PE} (hab : p a b) : All2 p (l ++ [a]) (m ++ [b]) := h.append ⟨hab, trivial⟩

theorem handRel_nth {φ : List PE} {hs : List Hand} {φc : List PE} (h : All2 (HandRel φ) hs φc) {j : Nat} {x : Hand} (hj : nth hs j = some x) : ∃ pe, nth φc j = some pe ∧ HandRel φ x pe := by
  obtain ⟨pe, h1, h2⟩ := h.nth hj
  exact ⟨pe, by rw [nth_eq]; exact h1, h2⟩

theorem RP.pe {φ : List PE} {id row fld : Nat} {v : Value} (h : RP φ id row fld v) : ∃ pe, nth φ id = some pe ∧ pe ≠ .abs := by
  have := h.2
  cases hp : nth φ id with
  | none => rw [hp] at this; exact this.elim
  | some pe => exact ⟨pe, rfl, fun e => by subst e; rw [hp] at this; exact this.elim⟩
theorem RS.slc_pe {φ : List PE} {id : Nat} {w : Option (Nat × Nat × Nat)} {nl : Bool} {v : Value} (h : RS φ (.slc id w nl) v) : ∃ pe, nth φ id = some pe ∧ pe ≠ .abs := by
  have := h.2
  cases hp : nth φ id with
  | none => rw [hp] at this; exact this.elim
  | some pe => exact ⟨pe, rfl, fun e => by subst e; rw [hp] at this; exact this.elim⟩

theorem handId_ok {φ : List PE} {id : Nat} {hs : List Hand} {pe : PE} (hpe : nth φ id = some pe ∧ pe ≠ .abs) :
    (HandsNd hs → HandsNd (handId id hs).2) ∧ ∀ φc, All2 (HandRel φ) hs φc → ∃ ext, All2 (HandRel φ) (handId id hs).2 (φc ++ ext) ∧ nth (φc ++ ext) (handId id hs).1 = some pe := by
  unfold handId
  cases hh : handAt id hs 0 with
  | some j =>
    refine ⟨fun h => h, fun φc hc => ⟨[], by simpa using hc, ?_⟩⟩
    obtain ⟨_, h2⟩ := handAt_some hh
    obtain ⟨pe', h3, h4⟩ := handRel_nth hc h2
    have h4 : nth φ id = some pe' ∧ _ := h4
    rw [hpe.1] at h4; cases h4.1
    simpa using h3
  | none =>
    refine ⟨fun h => h.push (handAt_none hh), fun φc hc => ⟨[pe], hc.push hpe, ?_⟩⟩
    show nth (φc ++ [pe]) hs.length = some pe
    rw [hc.length, nth_last]

theorem RP.hand {φ φc : List PE} {id j row fld : Nat} {v : Value} {pe : PE} (h : RP φ id row fld v) (h1 : nth φ id = some pe) (h2 : nth φc j = some pe) : RP φc j row fld v := by
  refine ⟨h.1, ?_⟩
  have := h.2
  rw [h1] at this
  rw [h2]
  exact this

theorem handCaps_ok {φ : List PE} : ∀ (caps : List (Nat × Nat × Nat)) (hs : List Hand) (vs : List Value), All2 (fun c v => RP φ c.1 c.2.1 c.2.2 v) caps vs →
    (HandsNd hs → HandsNd (handCaps caps hs).2) ∧ ∀ φc, All2 (HandRel φ) hs φc → ∃ ext, All2 (HandRel φ) (handCaps caps hs).2 (φc ++ ext) ∧ All2 (fun c v => RP (φc ++ ext) c.1 c.2.1 c.2.2 v) (handCaps caps hs).1 vs := by
  intro caps
  induction caps with
  | nil =>
    intro hs vs h
    cases vs with
    | nil => exact ⟨fun h => h, fun φc hc => ⟨[], by simpa [handCaps] using hc, trivial⟩⟩
    | cons _ _ => exact h.elim
  | cons c caps ih =>
    intro hs vs h
    obtain ⟨id, row, fld⟩ := c
    cases vs with
    | nil => exact h.elim
    | cons v vs =>
      obtain ⟨h1, h2⟩ := h
      obtain ⟨pe, hpe⟩ := h1.pe
      obtain ⟨a1, a2⟩ := handId_ok (hs := hs) hpe
      obtain ⟨b1, b2⟩ := ih (handId id hs).2 vs h2
      refine ⟨fun hn => b1 (a1 hn), fun φc hc => ?_⟩
      obtain ⟨e1, c1, c2⟩ := a2 φc hc
      obtain ⟨e2, d1, d2⟩ := b2 _ c1
      refine ⟨e1 ++ e2, by simpa [handCaps, List.append_assoc] using d1, ?_⟩
      simp only [handCaps]
      rw [← List.append_assoc]
      exact ⟨RP.hand h1 hpe.1 (nth_append_left c2), d2⟩

theorem handSV_ok {wd : Bool} {φ : List PE} {s : SV} {hs : List Hand} {v : Value} (h : RS φ s v) :
    (HandsNd hs → HandsNd (handSV wd s hs).2) ∧ ∀ φc, All2 (HandRel φ) hs φc → ∃ ext, All2 (HandRel φ) (handSV wd s hs).2 (φc ++ ext) ∧ RS (φc ++ ext) (handSV wd s hs).1 v := by
  cases s with
  | ptr id row fld =>
    have h : RP φ id row fld v := h
    obtain ⟨pe, hpe⟩ := h.pe
    obtain ⟨a1, a2⟩ := handId_ok (hs := hs) hpe
    refine ⟨a1, fun φc hc => ?_⟩
    obtain ⟨e1, c1, c2⟩ := a2 φc hc
    exact ⟨e1, c1, RP.hand h hpe.1 c2⟩
  | slc id w nl =>
    obtain ⟨pe, hpe, hna⟩ := h.slc_pe
    obtain ⟨hone, h2⟩ := h
    cases w with
    | none =>
      obtain ⟨a1, a2⟩ := handId_ok (hs := hs) ⟨hpe, hna⟩
      refine ⟨a1, fun φc hc => ?_⟩
      obtain ⟨e1, c1, c2⟩ := a2 φc hc
      refine ⟨e1, c1, hone, ?_⟩
      rw [hpe] at h2
      rw [c2]
      exact h2
    | some w =>
      cases wd with
      | true =>
        obtain ⟨a1, a2⟩ := handId_ok (hs := hs) ⟨hpe, hna⟩
        refine ⟨a1, fun φc hc => ?_⟩
        obtain ⟨e1, c1, c2⟩ := a2 φc hc
        refine ⟨e1, c1, hone, ?_⟩
        rw [hpe] at h2
        show (match nth (φc ++ e1) (handId id hs).1 with | some .dead => _ | some .virt => _ | some (.at L) => _ | some .abs => _ | none => _)
        rw [c2]
        exact h2
      | false =>
      obtain ⟨r, n, e⟩ := w
      refine ⟨fun h => h.pushW, fun φc hc => ?_⟩
      rw [hpe] at h2
      cases pe with
      | abs => exact absurd rfl hna
      | dead =>
        refine ⟨[.dead], hc.push (HandRel.dead' hpe), hone, ?_⟩
        have hl : nth (φc ++ [PE.dead]) hs.length = some (PE.dead) := by rw [hc.length, nth_last]
        rw [hl]
        trivial
      | virt =>
        obtain ⟨rfl, hnl, hw⟩ := h2
        refine ⟨[.virt], hc.push (HandRel.virt' hpe hw.1), hone, ?_⟩
        have hl : nth (φc ++ [PE.virt]) hs.length = some (PE.virt) := by rw [hc.length, nth_last]
        rw [hl]
        exact ⟨rfl, hnl, trivial⟩
      | «at» L =>
        obtain ⟨hnl, off, cap, rfl, h3, h4, h5⟩ := h2
        refine ⟨[.at ⟨L.b, off, L.n, L.sz, n⟩], hc.push (HandRel.at' hpe h3 h4 h5), hone, ?_⟩
        have hl : nth (φc ++ [PE.at ⟨L.b, off, L.n, L.sz, n⟩]) hs.length = some (PE.at ⟨L.b, off, L.n, L.sz, n⟩) := by rw [hc.length, nth_last]
        rw [hl]
        exact ⟨hnl, cap, rfl, by simp only []; omega, h5⟩
  | fn f caps =>
    obtain ⟨cv, rfl, hcv⟩ := h
    obtain ⟨a1, a2⟩ := handCaps_ok caps hs cv hcv
    refine ⟨a1, fun φc hc => ?_⟩
    obtain ⟨e1, c1, c2⟩ := a2 φc hc
    exact ⟨e1, c1, cv, rfl, c2⟩
  | _ => exact ⟨fun h => h, fun φc hc => ⟨[], by simpa [handSV] using hc, h⟩⟩

theorem handSVs_ok {wd : Bool} {φ : List PE} : ∀ (l : List SV) (hs : List Hand) (vs : List Value), All2 (RS φ) l vs →
    (HandsNd hs → HandsNd (handSVs wd l hs).2) ∧ ∀ φc, All2 (HandRel φ) hs φc → ∃ ext, All2 (HandRel φ) (handSVs wd l hs).2 (φc ++ ext) ∧ All2 (RS (φc ++ ext)) (handSVs wd l hs).1 vs := by
  intro l
  induction l with
  | nil =>
    intro hs vs h
    cases vs with
    | nil => exact ⟨fun h => h, fun φc hc => ⟨[], by simpa [handSVs] using hc, trivial⟩⟩
    | cons _ _ => exact h.elim
  | cons s l ih =>
    intro hs vs h
    cases vs with
    | nil => exact h.elim
    | cons v vs =>
      obtain ⟨h1, h2⟩ := h
      obtain ⟨a1, a2⟩ := handSV_ok (hs := hs) h1
      obtain ⟨b1, b2⟩ := ih (handSV wd s hs).2 vs h2
      refine ⟨fun hn => b1 (a1 hn), fun φc hc => ?_⟩
      obtain ⟨e1, c1, c2⟩ := a2 φc hc
      obtain ⟨e2, d1, d2⟩ := b2 _ c1
      refine ⟨e1 ++ e2, by simpa [handSVs, List.append_assoc] using d1, ?_⟩
      simp only [handSVs]
      rw [← List.append_assoc]
      exact ⟨c2.ext (.push _ _), d2⟩

theorem handAVs_ok {wd : Bool} {φ : List PE} : ∀ (l : List AV) (hs : List Hand) (l' : List AV) (hs' : List Hand) (vs : List Value), handAVs wd l hs = some (l', hs') → All2 (RA φ) l vs →
    (HandsNd hs → HandsNd hs') ∧ ∀ φc, All2 (HandRel φ) hs φc → ∃ ext, All2 (HandRel φ) hs' (φc ++ ext) ∧ All2 (RA (φc ++ ext)) l' vs := by
  intro l
  induction l with
  | nil =>
    intro hs l' hs' vs e h
    cases e
    cases vs with
    | nil => exact ⟨fun h => h, fun φc hc => ⟨[], by simpa using hc, trivial⟩⟩
    | cons _ _ => exact h.elim
  | cons x l ih =>
    intro hs l' hs' vs e h
    cases vs with
    | nil => exact h.elim
    | cons v vs =>
      obtain ⟨h1, h2⟩ := h
      unfold handAVs at e
      split at e
      · cases e
      rename_i a ha
      split at e
      · cases e
      rename_i b hb
      cases e
      have hone : (HandsNd hs → HandsNd a.2) ∧ ∀ φc, All2 (HandRel φ) hs φc → ∃ ext, All2 (HandRel φ) a.2 (φc ++ ext) ∧ RA (φc ++ ext) a.1 v := by
        cases x with
        | sc s => cases ha; exact handSV_ok h1
        | agg l =>
          cases ha
          obtain ⟨cs, rfl, hcs⟩ := h1
          obtain ⟨a1, a2⟩ := handSVs_ok l hs cs hcs
          refine ⟨a1, fun φc hc => ?_⟩
          obtain ⟨e1, c1, c2⟩ := a2 φc hc
          exact ⟨e1, c1, cs, rfl, c2⟩
        | tup l => cases ha
      obtain ⟨a1, a2⟩ := hone
      obtain ⟨b1, b2⟩ := ih a.2 b.1 b.2 vs hb h2
      refine ⟨fun hn => b1 (a1 hn), fun φc hc => ?_⟩
      obtain ⟨e1, c1, c2⟩ := a2 φc hc
      obtain ⟨e2, d1, d2⟩ := b2 _ c1
      refine ⟨e1 ++ e2, by simpa [List.append_assoc] using d1, ?_⟩
      rw [← List.append_assoc]
      exact ⟨c2.ext (.push _ _), d2⟩
end
end Go.Eng
