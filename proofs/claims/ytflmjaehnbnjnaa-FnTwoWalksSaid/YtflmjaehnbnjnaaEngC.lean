import Derived.Test.YtflmjaehnbnjnaaEngB
set_option linter.all false
namespace Go.Eng
open Go Go.RowKit

structure Calm (w w' : World) : Prop where
  os : w'.os = w.os
  tape : w'.tape = w.tape
  output : w'.output = w.output

theorem Calm.refl (w : World) : Calm w w := ⟨rfl, rfl, rfl⟩
theorem Calm.trans {a b c : World} (h : Calm a b) (k : Calm b c) : Calm a c := ⟨k.os.trans h.os, k.tape.trans h.tape, k.output.trans h.output⟩

structure Touch (b : Nat) (o : Obj) (w w' : World) : Prop where
  calm : Calm w w'
  size : w'.heap.size = w.heap.size
  other : ∀ k, k ≠ b → w'.heap[k]? = w.heap[k]?
  at_ : w'.heap[b]? = some o

theorem addr_add (b off i : Nat) : (⟨b, off, none⟩ : Addr).add i = ⟨b, off + i, none⟩ := by
  unfold Addr.add
  split
  · rename_i h; subst h; rfl
  · rfl

theorem cell_of {w : World} {b off : Nat} {c : Array Value} {t : TypeId} {fz : Nat × Nat} (h : w.heap[b]? = some (.cells c t fz)) :
    w.cell? ⟨b, off, none⟩ = c[off]? := by simp [World.cell?, h]

section
variable {P : Program}
theorem run_isAgg' {t : TypeId} {d : TypeDesc} (h : P.underlying t = some d) (w : World) : (isAgg t).run P w = .ok (aggOf d) w := by
  unfold isAgg Go.underlying
  cases d <;> simp [h, aggOf]
theorem run_sizeOf' {t : TypeId} {inf : TypeInfo} (h : P.info? t = some inf) (w : World) : (sizeOf t).run P w = .ok inf.size w := by
  unfold sizeOf typeInfo
  simp [h]
theorem run_typeInfo' {t : TypeId} {inf : TypeInfo} (h : P.info? t = some inf) (w : World) : (typeInfo t).run P w = .ok inf w := by
  unfold typeInfo
  simp [h]
theorem run_underlying' {t : TypeId} {d : TypeDesc} (h : P.underlying t = some d) (w : World) : (Go.underlying t).run P w = .ok d w := by
  unfold Go.underlying
  simp [h]
theorem run_zeroValue' {t : TypeId} {inf : TypeInfo} {z : Value} (h : P.info? t = some inf) (hz : inf.zero = some z) (w : World) : (zeroValue t).run P w = .ok z w := by
  unfold zeroValue typeInfo
  simp [h, hz]
theorem run_load' {w : World} {b off : Nat} {c : Array Value} {t : TypeId} {fz : Nat × Nat} {v : Value} (h : w.heap[b]? = some (.cells c t fz)) (hv : c[off]? = some v) :
    (load ⟨b, off, none⟩).run P w = .ok v w := by
  rw [run_load]
  rw [cell_of h, hv]

theorem run_loadCellsFrom' {w : World} {b off : Nat} {c : Array Value} {t : TypeId} {fz : Nat × Nat} (h : w.heap[b]? = some (.cells c t fz)) :
    ∀ (n i : Nat) (acc : Array Value), off + i + n ≤ c.size → (loadCellsFrom ⟨b, off, none⟩ i n acc).run P w = .ok (acc ++ c.extract (off + i) (off + i + n)) w := by
  intro n
  induction n with
  | zero => intro i acc hb; simp [loadCellsFrom]; omega
  | succ n ih =>
    intro i acc hb
    have hlt : off + i < c.size := by omega
    simp only [loadCellsFrom, addr_add, Sem.run_bind]
    rw [run_load' h (v := c[off + i]) (by simp [hlt])]
    simp only [Result.andThen_ok]
    rw [ih (i + 1) (acc.push c[off + i]) (by omega)]
    congr 1
    apply Array.ext'
    simp only [Array.toList_append, Array.toList_push, Array.toList_extract, List.extract_eq_take_drop]
    have h1 : off + i + (n + 1) - (off + i) = n + 1 := by omega
    have h2 : off + (i + 1) + n - (off + (i + 1)) = n := by omega
    rw [h1, h2]
    have h3 : c.toList.drop (off + i) = c[off + i] :: c.toList.drop (off + i + 1) := by
      rw [List.drop_eq_getElem_cons (by simpa using hlt)]; simp
    rw [h3]
    simp [Nat.add_assoc]

theorem run_loadCells' {w : World} {b off n : Nat} {c : Array Value} {t : TypeId} {fz : Nat × Nat} (h : w.heap[b]? = some (.cells c t fz)) (hn : off + n ≤ c.size) :
    (loadCells ⟨b, off, none⟩ n).run P w = .ok (c.extract off (off + n)) w := by
  have := run_loadCellsFrom' (P := P) h n 0 #[] (by omega)
  simpa [loadCells] using this

theorem run_storeCells' : ∀ (vs : List Value) (i : Nat) (w : World) (b off : Nat) (c : Array Value) (t : TypeId) (fz : Nat × Nat), w.heap[b]? = some (.cells c t fz) →
    (∀ v ∈ vs, v.oneCell' = true) → off + i + vs.length ≤ c.size → (∀ o, o < c.size → (decide (fz.1 ≤ o) && decide (o < fz.2)) = false) →
    ∃ w' c', (storeCells ⟨b, off, none⟩ vs i).run P w = .ok () w' ∧ Touch b (.cells c' t fz) w w' ∧ c'.size = c.size ∧
      ∀ j, c'[j]? = if off + i ≤ j ∧ j < off + i + vs.length then vs[j - (off + i)]? else c[j]? := by
  intro vs
  induction vs with
  | nil =>
    intro i w b off c t fz h _ _ _
    exact ⟨w, c, by simp [storeCells], ⟨.refl _, rfl, fun _ _ => rfl, h⟩, rfl, fun j => by rw [if_neg (fun e => by have := e.1; have := e.2; simp at this; omega)]⟩
  | cons v vs ih =>
    intro i w b off c t fz h hone hb hfz
    have hlt : off + i < c.size := by simp at hb; omega
    have hcell : w.cell? ⟨b, off + i, none⟩ = some c[off + i] := by rw [cell_of h]; simp [hlt]
    have hfr : w.frozen? ⟨b, off + i, none⟩ = false := by
      simp only [World.frozen?, h]
      exact hfz _ hlt
    have hb' : b < w.heap.size := by
      rcases Nat.lt_or_ge b w.heap.size with h' | h'
      · exact h'
      · rw [Array.getElem?_eq_none h'] at h; cases h
    have h1 : (w.setCell ⟨b, off + i, none⟩ v).heap[b]? = some (.cells (c.setIfInBounds (off + i) v) t fz) := by
      simp only [World.setCell, Array.getElem?_modify, h]
      simp
    have hst : (store ⟨b, off + i, none⟩ v).run P w = .ok () (w.setCell ⟨b, off + i, none⟩ v) := by
      rw [run_store P w _ v _ (hone v (by simp)), hcell]
      simp [hfr]
    obtain ⟨w', c', hr, ht, hs, hc⟩ := ih (i + 1) (w.setCell ⟨b, off + i, none⟩ v) b off (c.setIfInBounds (off + i) v) t fz h1 (fun x hx => hone x (by simp [hx])) (by simp at hb ⊢; omega) (by simpa using hfz)
    refine ⟨w', c', ?_, ⟨⟨ht.calm.os, ht.calm.tape, ht.calm.output⟩, ?_, ?_, ht.at_⟩, ?_, ?_⟩
    · simp only [storeCells, addr_add, Sem.run_bind, hst, Result.andThen_ok, hr]
    · rw [ht.size]; simp [World.setCell]
    · intro k hk
      rw [ht.other k hk]
      simp only [World.setCell, Array.getElem?_modify]
      rw [if_neg (by simpa using fun e => hk e.symm)]
    · rw [hs]; simp
    · intro j
      rw [hc j]
      simp only [List.length_cons, Array.getElem?_setIfInBounds]
      by_cases hj : j = off + i
      · subst hj
        rw [if_neg (by omega), if_pos (by omega), if_pos (by omega)]
        simp
      · by_cases hj2 : off + (i + 1) ≤ j ∧ j < off + (i + 1) + vs.length
        · rw [if_pos hj2, if_pos (by omega)]
          obtain ⟨d, hd⟩ : ∃ d, j - (off + i) = d + 1 := ⟨j - (off + i) - 1, by omega⟩
          rw [hd, List.getElem?_cons_succ]
          congr 1; omega
        · rw [if_neg hj2, if_neg (by omega)]
          rw [if_neg (by omega)]
end

section
variable {E : Env}

def WB (φ0 : List PE) (H0 : Hp E) (w0 : World) (b : Nat) : Prop :=
  w0.heap.size ≤ b ∨ ∃ j L0 he0, nth φ0 j = some (.at L0) ∧ L0.b = b ∧ nth H0 j = some (some he0) ∧ he0.ro = false

structure Inv (φ0 : List PE) (H0 : Hp E) (w0 : World) (φ : List PE) (H : Hp E) (w : World) : Prop where
  rh : RH φ H w
  base : Ext φ0 φ
  hle : H0.length ≤ H.length
  rosame : ∀ i he, nth H0 i = some (some he) → he.ro = true → nth H i = some (some he)
  robase : ∀ i he, i < H0.length → nth H i = some (some he) → ∃ he0, nth H0 i = some (some he0) ∧ he0.ro = he.ro
  newro : ∀ i he, H0.length ≤ i → nth H i = some (some he) → he.ro = false
  fresh : ∀ i L, H0.length ≤ i → nth φ i = some (.at L) → WB φ0 H0 w0 L.b
  calm : Calm w0 w
  size : w0.heap.size ≤ w.heap.size
  same : ∀ b, ¬ WB φ0 H0 w0 b → w.heap[b]? = w0.heap[b]?

theorem RB.mono {φ φ' : List PE} {he : HE E} {L : Loc} {w w' : World} (h : RB φ he L w) (e : Ext φ φ') (hw : w'.heap[L.b]? = w.heap[L.b]?) : RB φ' he L w' := by
  obtain ⟨⟨c, t, fz, h1, h2, h3, h4⟩, h5⟩ := h
  exact ⟨⟨c, t, fz, hw ▸ h1, h2, fun j s hs => let ⟨v, hv, hr⟩ := h3 j s hs; ⟨v, hv, hr.ext e⟩, h4⟩, h5⟩

theorem RB.lt {φ : List PE} {he : HE E} {L : Loc} {w : World} (h : RB φ he L w) : L.b < w.heap.size := by
  obtain ⟨⟨c, t, fz, h1, _⟩, _⟩ := h
  rcases Nat.lt_or_ge L.b w.heap.size with h' | h'
  · exact h'
  · rw [Array.getElem?_eq_none h'] at h1; cases h1

theorem RH.at_ {φ : List PE} {H : Hp E} {w : World} (h : RH φ H w) {i : Nat} {L : Loc} (hi : nth φ i = some (.at L)) : ∃ he, nth H i = some (some he) ∧ RB φ he L w := by
  obtain ⟨x, hx⟩ := nth_some (l := H) (n := i) (by have := nth_lt hi; have := h.len; omega)
  have := h.ent i _ x hi hx
  cases x with
  | none => exact this.elim
  | some he => exact ⟨he, hx, this⟩

theorem RH.some_ {φ : List PE} {H : Hp E} {w : World} (h : RH φ H w) {i : Nat} {he : HE E} (hi : nth H i = some (some he)) :
    (∃ L, nth φ i = some (.at L) ∧ RB φ he L w) ∨ (nth φ i = some .virt ∧ he.b.cells = [] ∧ ∃ b, he.b = .rows b) ∨ nth φ i = some .abs := by
  obtain ⟨pe, hpe⟩ := nth_some (l := φ) (n := i) (by have := nth_lt hi; have := h.len; omega)
  have := h.ent i pe _ hpe hi
  cases pe with
  | dead => exact this.elim
  | virt => exact .inr (.inl ⟨hpe, this⟩)
  | abs => exact .inr (.inr hpe)
  | «at» L => exact .inl ⟨L, hpe, this⟩

theorem Inv.wb {φ0 : List PE} {H0 : Hp E} {w0 : World} {φ : List PE} {H : Hp E} {w : World} (h : Inv φ0 H0 w0 φ H w) (hl : φ0.length = H0.length) {i : Nat} {L : Loc} {he : HE E}
    (hi : nth φ i = some (.at L)) (hh : nth H i = some (some he)) (hro : he.ro = false) : WB φ0 H0 w0 L.b := by
  rcases Nat.lt_or_ge i H0.length with h1 | h1
  · obtain ⟨he0, h0, hr⟩ := h.robase i he h1 hh
    obtain ⟨pe, hpe⟩ := nth_some (l := φ0) (n := i) (by omega)
    rcases h.base i pe hpe with h2 | h2
    · rw [hi] at h2; cases h2
      exact .inr ⟨i, L, he0, hpe, rfl, h0, hr.trans hro⟩
    · rw [hi] at h2; cases h2
  · exact h.fresh i L h1 hi

theorem Inv.refl {φ0 : List PE} {H0 : Hp E} {w0 : World} (h : RH φ0 H0 w0) : Inv φ0 H0 w0 φ0 H0 w0 where
  rh := h
  base := .refl _
  hle := Nat.le_refl _
  rosame := fun _ _ h _ => h
  robase := fun _ he _ h => ⟨he, h, rfl⟩
  newro := fun i he hi h => by have := nth_lt h; omega
  fresh := fun i L hi h' => by have := nth_lt h'; have := h.len; omega
  calm := .refl _
  size := Nat.le_refl _
  same := fun _ _ => rfl

variable {φ0 : List PE} {H0 : Hp E} {w0 : World} {φ : List PE} {H : Hp E} {w : World}

theorem Inv.drew (h : Inv φ0 H0 w0 φ H w) (d : Nat) : Inv φ0 H0 w0 φ H { w with drawn := d } where
  rh := ⟨h.rh.len, fun i pe x hp hx => by
    have := h.rh.ent i pe x hp hx
    cases pe <;> cases x <;> first | exact this | exact RB.mono this (.refl _) rfl, h.rh.inj⟩
  base := h.base
  hle := h.hle
  rosame := h.rosame
  robase := h.robase
  newro := h.newro
  fresh := h.fresh
  calm := ⟨h.calm.os, h.calm.tape, h.calm.output⟩
  size := h.size
  same := h.same

theorem nth_push_cases {α : Type} {l : List α} {x y : α} {i : Nat} (h : nth (l ++ [x]) i = some y) : (i < l.length ∧ nth l i = some y) ∨ (i = l.length ∧ y = x) := by
  rw [nth_append] at h
  split at h
  · rename_i hlt; exact .inl ⟨hlt, h⟩
  · rename_i hge
    obtain ⟨k, hk⟩ : ∃ k, i - l.length = k := ⟨_, rfl⟩
    rw [hk] at h
    cases k with
    | zero => simp [nth] at h; exact .inr ⟨by omega, h.symm⟩
    | succ k => simp [nth] at h

theorem Inv.new (h : Inv φ0 H0 w0 φ H w) {c : Array Value} {t : TypeId} {fz : Nat × Nat} {b : HB E} {L : Loc} {w' : World} (hL : L.b = w.heap.size) (hb : L.base = 0) (hn : L.n = c.size)
    (hc : ∀ j s, nth b.cells j = some s → ∃ v, c[j]? = some v ∧ RS φ s v) (hf : b.fits L) (hfz : (∀ o, o < c.size → (decide (fz.1 ≤ o) && decide (o < fz.2)) = false) ∧ b.typed L t c.size)
    (hw : Calm w w') (hsz : w'.heap.size = w.heap.size + 1) (hsame : ∀ k, k < w.heap.size → w'.heap[k]? = w.heap[k]?) (hat : w'.heap[w.heap.size]? = some (.cells c t fz)) :
    Inv φ0 H0 w0 (φ ++ [.at L]) (H ++ [some ⟨false, b⟩]) w' := by
  have hnew : RB (φ ++ [.at L]) ⟨false, b⟩ L w' := by
    refine ⟨⟨c, t, fz, by rw [hL]; exact hat, hn.symm, fun j s hj => ?_, fun _ => ⟨fun _ => hfz.1, hfz.2⟩⟩, hf⟩
    obtain ⟨v, hv, hr⟩ := hc j s hj
    exact ⟨v, by rw [hb]; simpa using hv, hr.ext (.push _ _)⟩
  refine ⟨⟨by simp [h.rh.len], fun i pe x hp hx => ?_, fun i j La Lb he hne ha hb' hh hro => ?_⟩, h.base.trans (.push _ _), by have := h.hle; simp; omega, fun i he h0 hr => nth_append_left (h.rosame i he h0 hr), fun i he hi hh => ?_, fun i he hi hh => ?_, fun i La hi ha => ?_, h.calm.trans hw, by rw [hsz]; have := h.size; omega, fun k hk => ?_⟩
  · rcases nth_push_cases hp with ⟨hi, hp⟩ | ⟨hi, rfl⟩
    · rcases nth_push_cases hx with ⟨_, hx⟩ | ⟨hi', _⟩
      · have := h.rh.ent i pe x hp hx
        cases pe <;> cases x <;> first | exact this | exact RB.mono this (.push _ _) (hsame _ (RB.lt this))
      · have := h.rh.len; omega
    · rcases nth_push_cases hx with ⟨hi', _⟩ | ⟨_, rfl⟩
      · have := h.rh.len; omega
      · exact hnew
  · rcases nth_push_cases ha with ⟨hi, ha⟩ | ⟨hi, hLa⟩
    · rcases nth_push_cases hh with ⟨_, hh⟩ | ⟨hi', _⟩
      · rcases nth_push_cases hb' with ⟨_, hb'⟩ | ⟨_, hLb⟩
        · exact h.rh.inj i j La Lb he hne ha hb' hh hro
        · cases hLb
          obtain ⟨he', _, hrb⟩ := h.rh.at_ ha
          have := hrb.lt
          omega
      · have := h.rh.len; omega
    · cases hLa
      rcases nth_push_cases hb' with ⟨_, hb'⟩ | ⟨hj, _⟩
      · obtain ⟨he', _, hrb⟩ := h.rh.at_ hb'
        have := hrb.lt
        omega
      · omega
  · rcases nth_push_cases hh with ⟨_, hh⟩ | ⟨hi', _⟩
    · exact h.robase i he hi hh
    · have := h.hle; omega
  · rcases nth_push_cases hh with ⟨_, hh⟩ | ⟨_, hh⟩
    · exact h.newro i he hi hh
    · cases hh; rfl
  · rcases nth_push_cases ha with ⟨_, ha⟩ | ⟨_, ha⟩
    · exact h.fresh i La hi ha
    · cases ha; left; have := h.size; omega
  · rw [← h.same k hk]
    refine hsame k ?_
    rcases Nat.lt_or_ge k w0.heap.size with h1 | h1
    · exact Nat.lt_of_lt_of_le h1 h.size
    · exact absurd (.inl h1) hk

structure Pushed (w w' : World) (o : Obj) : Prop where
  calm : Calm w w'
  size : w'.heap.size = w.heap.size + 1
  same : ∀ k, k < w.heap.size → w'.heap[k]? = w.heap[k]?
  at_ : w'.heap[w.heap.size]? = some o

theorem Pushed.push (w : World) (o : Obj) (d : Nat) : Pushed w { w with heap := w.heap.push o, drawn := d } o :=
  ⟨⟨rfl, rfl, rfl⟩, by simp, fun k hk => by simp only []; rw [Array.getElem?_push, if_neg (by omega)], by simp⟩

theorem Inv.virt (h : Inv φ0 H0 w0 φ H w) {b : E.B} (hb : E.cells b = []) : Inv φ0 H0 w0 (φ ++ [.virt]) (H ++ [some ⟨false, .rows b⟩]) w := by
  refine ⟨⟨by simp [h.rh.len], fun i pe x hp hx => ?_, fun i j La Lb he hne ha hb' hh hro => ?_⟩, h.base.trans (.push _ _), by have := h.hle; simp; omega, fun i he h0 hr => nth_append_left (h.rosame i he h0 hr), fun i he hi hh => ?_, fun i he hi hh => ?_, fun i La hi ha => ?_, h.calm, h.size, h.same⟩
  · rcases nth_push_cases hp with ⟨hi, hp⟩ | ⟨hi, rfl⟩
    · rcases nth_push_cases hx with ⟨_, hx⟩ | ⟨hi', _⟩
      · have := h.rh.ent i pe x hp hx
        cases pe <;> cases x <;> first | exact this | exact RB.mono this (.push _ _) rfl
      · have := h.rh.len; omega
    · rcases nth_push_cases hx with ⟨hi', _⟩ | ⟨_, rfl⟩
      · have := h.rh.len; omega
      · exact ⟨hb, b, rfl⟩
  · rcases nth_push_cases ha with ⟨hi, ha⟩ | ⟨_, ha⟩
    · rcases nth_push_cases hh with ⟨_, hh⟩ | ⟨hi', _⟩
      · rcases nth_push_cases hb' with ⟨_, hb'⟩ | ⟨_, hLb⟩
        · exact h.rh.inj i j La Lb he hne ha hb' hh hro
        · cases hLb
      · have := h.rh.len; omega
    · cases ha
  · rcases nth_push_cases hh with ⟨_, hh⟩ | ⟨hi', _⟩
    · exact h.robase i he hi hh
    · have := h.hle; omega
  · rcases nth_push_cases hh with ⟨_, hh⟩ | ⟨_, hh⟩
    · exact h.newro i he hi hh
    · cases hh; rfl
  · rcases nth_push_cases ha with ⟨_, ha⟩ | ⟨_, ha⟩
    · exact h.fresh i La hi ha
    · cases ha

theorem Inv.store (h : Inv φ0 H0 w0 φ H w) (hl : φ0.length = H0.length) {i : Nat} {L : Loc} {he : HE E} (hi : nth φ i = some (.at L)) (hh : nth H i = some (some he)) (hro : he.ro = false)
    {c : Array Value} {t : TypeId} {fz : Nat × Nat} {b : HB E} {w' : World} (hn : c.size = L.n) (hc : ∀ j s, nth b.cells j = some s → ∃ v, c[L.base + j]? = some v ∧ RS φ s v) (hf : b.fits L)
    (hfz : (b.frozen = false → ∀ o, o < c.size → (decide (fz.1 ≤ o) && decide (o < fz.2)) = false) ∧ b.typed L t c.size) (ht : Touch L.b (.cells c t fz) w w') :
    Inv φ0 H0 w0 φ (nset H i (some ⟨false, b⟩)) w' := by
  have hwb := h.wb hl hi hh hro
  refine ⟨⟨by simp [h.rh.len], fun k pe x hp hx => ?_, fun k j La Lb he' hne ha hb' hh' hro' => ?_⟩, h.base, by simpa using h.hle, fun k he0 h0 hr => ?_, fun k he' hk hh' => ?_, fun k he' hk hh' => ?_, h.fresh, h.calm.trans ht.calm, by rw [ht.size]; exact h.size, fun k hk => ?_⟩
  · rw [nth_nset] at hx
    split at hx
    · rename_i hki
      obtain ⟨rfl, _⟩ := hki
      rw [hi] at hp; cases hp
      cases hx
      exact ⟨⟨c, t, fz, ht.at_, hn, hc, fun _ => hfz⟩, hf⟩
    · rename_i hki
      have := h.rh.ent k pe x hp hx
      cases pe with
      | dead => cases x <;> exact this
      | virt => cases x <;> exact this
      | abs => cases x <;> exact this
      | «at» Lk =>
        cases x with
        | none => exact this.elim
        | some hek =>
          refine RB.mono this (.refl _) (ht.other _ ?_)
          have hne : i ≠ k := fun e => hki ⟨e.symm, nth_lt hh⟩
          exact fun e => h.rh.inj i k L Lk he hne hi hp hh hro e.symm
  · rw [nth_nset] at hh'
    split at hh'
    · rename_i hki
      obtain ⟨rfl, _⟩ := hki
      exact h.rh.inj k j La Lb he hne ha hb' hh hro
    · exact h.rh.inj k j La Lb he' hne ha hb' hh' hro'
  · rw [nth_nset]
    split
    · rename_i hki
      obtain ⟨rfl, _⟩ := hki
      have := h.rosame k he0 h0 hr
      rw [hh] at this; cases this
      rw [hr] at hro; cases hro
    · exact h.rosame k he0 h0 hr
  · rw [nth_nset] at hh'
    split at hh'
    · rename_i hki
      obtain ⟨rfl, _⟩ := hki
      cases hh'
      obtain ⟨he0, h0, hr⟩ := h.robase k he hk hh
      exact ⟨he0, h0, hr.trans hro⟩
    · exact h.robase k he' hk hh'
  · rw [nth_nset] at hh'
    split at hh'
    · cases hh'; rfl
    · exact h.newro k he' hk hh'
  · rw [ht.other k (fun e => hk (e ▸ hwb))]
    exact h.same k hk

theorem Inv.kill (h : Inv φ0 H0 w0 φ H w) {i : Nat} {he : HE E} (hh : nth H i = some (some he)) (hro : he.ro = false) :
    Inv φ0 H0 w0 (nset φ i .dead) (nset H i none) w := by
  have hext : Ext φ (nset φ i .dead) := fun k pe hk => by
    rw [nth_nset]
    split
    · exact .inr rfl
    · exact .inl hk
  refine ⟨⟨by simp [h.rh.len], fun k pe x hp hx => ?_, fun k j La Lb he' hne ha hb' hh' hro' => ?_⟩, h.base.trans hext, by simpa using h.hle, fun k he0 h0 hr => ?_, fun k he' hk hh' => ?_, fun k he' hk hh' => ?_, fun k La hk ha => ?_, h.calm, h.size, h.same⟩
  · rw [nth_nset] at hp hx
    by_cases hki : k = i
    · rw [if_pos ⟨hki, by have := nth_lt hh; have := h.rh.len; omega⟩] at hp
      rw [if_pos ⟨hki, nth_lt hh⟩] at hx
      cases hp; cases hx; trivial
    · rw [if_neg (fun e => hki e.1)] at hp hx
      have := h.rh.ent k pe x hp hx
      cases pe <;> cases x <;> first | exact this | exact RB.mono this hext rfl
  · rw [nth_nset] at ha hb' hh'
    split at ha
    · cases ha
    · split at hb'
      · cases hb'
      · split at hh'
        · cases hh'
        · exact h.rh.inj k j La Lb he' hne ha hb' hh' hro'
  · rw [nth_nset]
    split
    · rename_i hki
      obtain ⟨rfl, _⟩ := hki
      have := h.rosame k he0 h0 hr
      rw [hh] at this; cases this
      rw [hr] at hro; cases hro
    · exact h.rosame k he0 h0 hr
  · rw [nth_nset] at hh'
    split at hh'
    · cases hh'
    · exact h.robase k he' hk hh'
  · rw [nth_nset] at hh'
    split at hh'
    · cases hh'
    · exact h.newro k he' hk hh'
  · rw [nth_nset] at ha
    split at ha
    · cases ha
    · exact h.fresh k La hk ha

theorem Inv.reuse (h : Inv φ0 H0 w0 φ H w) {c : Array Value} {t : TypeId} {fz : Nat × Nat} {b : E.B} {L : Loc} {w' : World} (hwb : WB φ0 H0 w0 L.b) (hdead : ∀ k L', nth φ k = some (.at L') → L'.b ≠ L.b)
    (hn : c.size = L.n) (hc : ∀ j s, nth (E.cells b) j = some s → ∃ v, c[L.base + j]? = some v ∧ RS φ s v) (hf : HB.fits L (.rows b : HB E)) (hfz : (∀ o, o < c.size → (decide (fz.1 ≤ o) && decide (o < fz.2)) = false) ∧ t = E.elt b ∧ L.base = 0)
    (ht : Touch L.b (.cells c t fz) w w') : Inv φ0 H0 w0 (φ ++ [.at L]) (H ++ [some ⟨false, .rows b⟩]) w' := by
  have hnew : RB (φ ++ [.at L]) (⟨false, .rows b⟩ : HE E) L w' :=
    ⟨⟨c, t, fz, ht.at_, hn, fun j s hj => let ⟨v, hv, hr⟩ := hc j s hj; ⟨v, hv, hr.ext (.push _ _)⟩, fun _ => ⟨fun _ => hfz.1, hfz.2⟩⟩, hf⟩
  refine ⟨⟨by simp [h.rh.len], fun i pe x hp hx => ?_, fun i j La Lb he hne ha hb' hh hro => ?_⟩, h.base.trans (.push _ _), by have := h.hle; simp; omega, fun i he h0 hr => nth_append_left (h.rosame i he h0 hr), fun i he hi hh => ?_, fun i he hi hh => ?_, fun i La hi ha => ?_, h.calm.trans ht.calm, by rw [ht.size]; exact h.size, fun k hk => ?_⟩
  · rcases nth_push_cases hp with ⟨hi, hp⟩ | ⟨hi, rfl⟩
    · rcases nth_push_cases hx with ⟨_, hx⟩ | ⟨hi', _⟩
      · have := h.rh.ent i pe x hp hx
        cases pe with
        | dead => cases x <;> exact this
        | virt => cases x <;> exact this
        | abs => cases x <;> exact this
        | «at» Lk =>
          cases x with
          | none => exact this.elim
          | some hek => exact RB.mono this (.push _ _) (ht.other _ (hdead i Lk hp))
      · have := h.rh.len; omega
    · rcases nth_push_cases hx with ⟨hi', _⟩ | ⟨_, rfl⟩
      · have := h.rh.len; omega
      · exact hnew
  · rcases nth_push_cases ha with ⟨hi, ha⟩ | ⟨hi, hLa⟩
    · rcases nth_push_cases hh with ⟨_, hh⟩ | ⟨hi', _⟩
      · rcases nth_push_cases hb' with ⟨_, hb'⟩ | ⟨_, hLb⟩
        · exact h.rh.inj i j La Lb he hne ha hb' hh hro
        · cases hLb
          exact hdead i La ha
      · have := h.rh.len; omega
    · cases hLa
      rcases nth_push_cases hb' with ⟨_, hb'⟩ | ⟨hj, _⟩
      · exact fun e => hdead j Lb hb' e.symm
      · omega
  · rcases nth_push_cases hh with ⟨_, hh⟩ | ⟨hi', _⟩
    · exact h.robase i he hi hh
    · have := h.hle; omega
  · rcases nth_push_cases hh with ⟨_, hh⟩ | ⟨_, hh⟩
    · exact h.newro i he hi hh
    · cases hh; rfl
  · rcases nth_push_cases ha with ⟨_, ha⟩ | ⟨_, ha⟩
    · exact h.fresh i La hi ha
    · cases ha; exact hwb
  · rw [ht.other k (fun e => hk (e ▸ hwb))]
    exact h.same k hk
end
end Go.Eng
