import Derived.Test.YtflmjaehnbnjnaaEngC
set_option linter.all false
namespace Go.Eng
open Go Go.RowKit

section
variable {E : Env} {R : Type}

theorem oK_some {α : Type} {x : Option α} {K : α → Option R} {r : R} (h : oK x K = some r) : ∃ a, x = some a ∧ K a = some r := by
  cases x with
  | none => cases h
  | some a => exact ⟨a, rfl, h⟩
theorem cond_some {b : Bool} {x y : Option R} {r : R} (h : cond b x y = some r) : (b = true ∧ x = some r) ∨ (b = false ∧ y = some r) := by
  cases b <;> simp_all
theorem cond_none_right {b : Bool} {x : Option R} {r : R} (h : cond b x none = some r) : b = true ∧ x = some r := by
  cases b <;> simp_all
theorem cond_none_left {b : Bool} {x : Option R} {r : R} (h : cond b none x = some r) : b = false ∧ x = some r := by
  cases b <;> simp_all

def RF (φ : List PE) (F : Fr) (tmps : Array Value) : Prop :=
  F.length = tmps.size ∧ ∀ i av, nth F i = some (some av) → ∃ v, tmps[i]? = some v ∧ RA φ av v

theorem RF.ext {φ φ' : List PE} (e : Ext φ φ') {F : Fr} {tmps : Array Value} (h : RF φ F tmps) : RF φ' F tmps :=
  ⟨h.1, fun i av hi => let ⟨v, hv, hr⟩ := h.2 i av hi; ⟨v, hv, hr.ext e⟩⟩

theorem constSV_ok {v : Value} {s : SV} (h : constSV v = some s) (φ : List PE) : RS φ s v := by
  unfold constSV at h
  split at h <;> simp at h <;> subst h <;> rfl

theorem ev_ok {F : Fr} {x : Operand} {av : AV} (h : ev F x = some av) {φ : List PE} {a : Act} (hf : RF φ F a.tmps) : RA φ av (a.eval x) := by
  cases x with
  | tmp t =>
    simp only [ev] at h
    cases ht : nth F t with
    | none => rw [ht] at h; cases h
    | some y =>
      rw [ht] at h
      simp at h
      subst h
      obtain ⟨v, hv, hr⟩ := hf.2 t av ht
      simp only [Act.eval, Array.getD_eq_getD_getElem?, hv]
      exact hr
  | const v =>
    simp only [ev, Option.map_eq_some_iff] at h
    obtain ⟨s, hs, rfl⟩ := h
    exact constSV_ok hs φ
  | func f =>
    simp only [ev] at h
    cases h
    exact ⟨[], rfl, trivial⟩
  | global g => simp only [ev] at h; cases h

theorem RF.put {φ : List PE} {F : Fr} {a : Act} (h : RF φ F a.tmps) {d : Nat} {av : AV} {v : Value} (hv : RA φ av v) (hd : d < F.length) :
    RF φ (nset F d (some av)) (a.put (some d) v).tmps := by
  refine ⟨by simp [Act.put, h.1], fun i x hi => ?_⟩
  rw [nth_nset] at hi
  simp only [Act.put, Array.getElem?_setIfInBounds]
  split at hi
  · rename_i hid
    obtain ⟨rfl, _⟩ := hid
    cases hi
    have := h.1
    rw [if_pos rfl, if_pos (by omega)]
    exact ⟨v, rfl, hv⟩
  · rename_i hid
    by_cases e : d = i
    · exact absurd ⟨e.symm, hd⟩ hid
    · rw [if_neg e]
      exact h.2 i x hi

theorem ty_ok (ok : EnvOk E) {t : TypeId} {ti : TI} (h : E.ty t = some ti) : TyOk E.P t ti := ok.ty t ti h

theorem RB.cell {φ : List PE} {he : HE E} {L : Loc} {w : World} (h : RB φ he L w) {j : Nat} {s : SV} (hs : nth he.b.cells j = some s) :
    ∃ v c t fz, w.heap[L.b]? = some (.cells c t fz) ∧ c[L.base + j]? = some v ∧ RS φ s v := by
  obtain ⟨⟨c, t, fz, h1, _, h3, _⟩, _⟩ := h
  obtain ⟨v, hv, hr⟩ := h3 j s hs
  exact ⟨v, c, t, fz, h1, hv, hr⟩

theorem cellsK_ok (ok : EnvOk E) {H : Hp E} {id row : Nat} {K : List SV → Option R} {r : R} (h : cellsK E H id row K = some r) :
    ∃ l he j0, K l = some r ∧ nth H id = some (some he) ∧ (∀ f s, nth l f = some s → nth he.b.cells (j0 + f) = some s) ∧ j0 + l.length ≤ he.b.cells.length ∧ ∀ L, he.b.fits L → row * L.sz = j0 := by
  unfold cellsK at h
  split at h
  · rename_i he hh
    split at h
    · rename_i l hl
      obtain ⟨h0, hK⟩ := cond_none_right h
      have : row = 0 := Nat.eq_of_beq_eq_true h0
      subst this
      exact ⟨l, he, 0, hK, hh, fun f s hs => by rw [hl, Nat.zero_add]; exact hs, by rw [hl]; simp [HB.cells], fun L _ => by simp⟩
    · rename_i b hb
      obtain ⟨l, hK, hlen, hn, rfl⟩ := ok.rowK _ _ _ _ h
      refine ⟨_, he, row * E.sz b, hK, hh, fun f s hs => ?_, ?_, fun L hf => ?_⟩
      · rw [nth_seg] at hs
        split at hs
        · rw [hb]; exact hs
        · cases hs
      · rw [hb, hlen]
        show _ ≤ (E.cells b).length
        rw [ok.cells_len]
        calc row * E.sz b + E.sz b = (row + 1) * E.sz b := by rw [Nat.succ_mul]
          _ ≤ E.len b * E.sz b := Nat.mul_le_mul_right _ hn
      · rw [hb] at hf
        rw [hf.1]
    · cases h
  · cases h

theorem RP.loc {φ : List PE} {H : Hp E} {w : World} (hr : RH φ H w) {id row fld : Nat} {v : Value} (h : RP φ id row fld v) {he : HE E} (hh : nth H id = some (some he)) :
    ∃ L, nth φ id = some (.at L) ∧ RB φ he L w ∧ v = .pointer (some ⟨L.b, L.base + row * L.sz + fld, none⟩) := by
  obtain ⟨_, h2⟩ := h
  rcases hr.some_ hh with ⟨L, hL, hb⟩ | ⟨hv, _⟩ | hv
  · rw [hL] at h2
    exact ⟨L, hL, hb, h2⟩
  · rw [hv] at h2
    exact h2.elim
  · rw [hv] at h2
    exact h2.elim

theorem extract_nil (c : Array Value) (o : Nat) : c.extract o (o + 0) = #[] := by
  apply Array.ext'
  simp [List.extract_eq_take_drop]

theorem extract_all2 {φ : List PE} {l : List SV} {c : Array Value} {o : Nat} (hb : o + l.length ≤ c.size) (h : ∀ j s, nth l j = some s → ∃ v, c[o + j]? = some v ∧ RS φ s v) :
    All2 (RS φ) l (c.extract o (o + l.length)).toList := by
  refine All2.of_nth (by simp; omega) fun n s hs => ?_
  obtain ⟨v, hv, hr⟩ := h n s hs
  have hn := nth_lt hs
  refine ⟨v, ?_, hr⟩
  rw [Array.getElem?_toList, Array.getElem?_extract]
  rw [if_pos (by omega)]
  exact hv

theorem loadK_ok (ok : EnvOk E) {H : Hp E} {t id row fld : Nat} {K : AV → Option R} {r : R} (h : loadK E H t id row fld K = some r) :
    ∃ v, K v = some r ∧ (∀ l, v ≠ .tup l) ∧ ∀ φ w a, RH φ H w → RP φ id row fld a → ∃ rv, (Instr.loadAt t a).run E.P w = .ok rv w ∧ RA φ v rv := by
  unfold loadK at h
  obtain ⟨ti, hti, h⟩ := oK_some h
  obtain ⟨inf, d, hi, hu, hsz, hby, hag, hshp, _⟩ := (ty_ok ok hti).ok
  obtain ⟨l, he, j0, hK, hh, hcell, hlen, hrow⟩ := cellsK_ok ok h
  rcases cond_some hK with ⟨hagg, hK⟩ | ⟨hagg, hK⟩
  · obtain ⟨hle, hK⟩ := cond_none_right hK
    have hle : fld + ti.size ≤ l.length := Nat.le_of_ble_eq_true hle
    refine ⟨_, hK, (fun _ e => by cases e), fun φ w a hr hp => ?_⟩
    obtain ⟨L, hL, hb, rfl⟩ := hp.loc hr hh
    obtain ⟨⟨c, t', fz, h1, h2, h3, _⟩, hfit⟩ := hb
    have hj := hrow L hfit
    have hsegl : (seg l fld ti.size).length = ti.size := seg_length l fld ti.size hle
    have hcs : ∀ j s, nth (seg l fld ti.size) j = some s → ∃ v, c[(L.base + row * L.sz + fld) + j]? = some v ∧ RS φ s v := fun j s hs => by
      rw [nth_seg] at hs
      split at hs
      · obtain ⟨v, hv, hr⟩ := h3 _ _ (hcell _ _ hs)
        exact ⟨v, by rw [hj]; rw [← hv]; congr 1; omega, hr⟩
      · cases hs
    have hbnd : L.base + row * L.sz + fld + ti.size ≤ c.size ∨ ti.size = 0 := by
      rcases Nat.eq_zero_or_pos ti.size with h0 | h0
      · exact .inr h0
      · left
        obtain ⟨s, hs⟩ := nth_some (l := seg l fld ti.size) (n := ti.size - 1) (by omega)
        obtain ⟨v, hv, _⟩ := hcs _ _ hs
        have := (Array.getElem?_eq_some_iff.1 hv).1
        omega
    have hload : (loadCells ⟨L.b, L.base + row * L.sz + fld, none⟩ inf.size).run E.P w = .ok (c.extract (L.base + row * L.sz + fld) (L.base + row * L.sz + fld + ti.size)) w := by
      rw [hsz]
      rcases hbnd with hb | h0
      · exact run_loadCells' h1 hb
      · rw [h0, extract_nil]; rfl
    refine ⟨.agg (c.extract (L.base + row * L.sz + fld) (L.base + row * L.sz + fld + ti.size)), ?_, _, by rw [Array.toArray_toList], ?_⟩
    · simp only [Instr.loadAt, Instr.sureAddr, loadVar, Sem.run_bind, Sem.run_pure, Result.andThen_ok]
      rw [run_isAgg' hu, hag, hagg]
      simp only [Result.andThen_ok, if_true, Sem.run_bind]
      rw [run_sizeOf' hi]
      simp only [Result.andThen_ok]
      rw [hload]
      rfl
    · rcases hbnd with hb | h0
      · have := extract_all2 (φ := φ) (l := seg l fld ti.size) (c := c) (o := L.base + row * L.sz + fld) (by omega) hcs
        rwa [hsegl] at this
      · have : seg l fld ti.size = [] := by rw [h0]; simp [seg]
        rw [this, h0, extract_nil]
        trivial
  · obtain ⟨s, hs, hK⟩ := oK_some hK
    refine ⟨_, hK, (fun _ e => by cases e), fun φ w a hr hp => ?_⟩
    obtain ⟨L, hL, hb, rfl⟩ := hp.loc hr hh
    obtain ⟨⟨c, t', fz, h1, h2, h3, _⟩, hfit⟩ := hb
    obtain ⟨v, hv, hr⟩ := h3 _ _ (hcell _ _ hs)
    refine ⟨v, ?_, hr⟩
    simp only [Instr.loadAt, Instr.sureAddr, loadVar, Sem.run_bind, Sem.run_pure, Result.andThen_ok]
    rw [run_isAgg' hu, hag, hagg]
    simp only [Result.andThen_ok, Bool.false_eq_true, if_false]
    refine run_load' h1 ?_
    rw [hrow L hfit, ← hv]
    congr 1; omega

theorem RA.cells {φ : List PE} {v : AV} {rv : Value} (h : RA φ v rv) (hn : ∀ l, v ≠ .tup l) : All2 (RS φ) (avCells v) rv.cells.toList := by
  cases v with
  | sc s =>
    have h : RS φ s rv := h
    rw [h.cells]
    exact ⟨h, trivial⟩
  | agg l =>
    obtain ⟨cs, rfl, h⟩ := h
    simpa [Value.cells, avCells] using h
  | tup l => exact absurd rfl (hn l)

theorem All2.one {φ : List PE} {l : List SV} {vs : List Value} (h : All2 (RS φ) l vs) : ∀ v ∈ vs, v.oneCell' = true := by
  induction vs generalizing l with
  | nil => intro v hv; cases hv
  | cons a vs ih =>
    cases l with
    | nil => exact h.elim
    | cons s l =>
      intro v hv
      rcases List.mem_cons.1 hv with rfl | hv
      · exact h.1.one
      · exact ih h.2 v hv

theorem storeCellsK_ok (ok : EnvOk E) {H : Hp E} {id row fld : Nat} {vs : List SV} {K : Hp E → Option R} {r : R} (h : storeCellsK E H id row fld vs K = some r) :
    ∃ H', K H' = some r ∧ ∀ (φ0 : List PE) (H0 : Hp E) (w0 : World) φ w a (rvs : List Value), φ0.length = H0.length → Inv φ0 H0 w0 φ H w → RP φ id row fld a → All2 (RS φ) vs rvs →
      ∃ (L : Loc) (w' : World), a = .pointer (some ⟨L.b, L.base + row * L.sz + fld, none⟩) ∧ (storeCells ⟨L.b, L.base + row * L.sz + fld, none⟩ rvs).run E.P w = .ok () w' ∧ Inv φ0 H0 w0 φ H' w' := by
  unfold storeCellsK at h
  split at h
  case h_2 => cases h
  rename_i he hh
  obtain ⟨hro, h⟩ := cond_none_left h
  -- the block behind the store, and where the cells lie in it
  obtain ⟨b', j0, hK, hlen, hspl, hfits, hrow, helt, hnf⟩ : ∃ b' j0, K (nset H id (some ⟨false, b'⟩)) = some r ∧ j0 + fld + vs.length ≤ he.b.cells.length ∧ b'.cells = splice he.b.cells (j0 + fld) vs ∧ (∀ L, he.b.fits L → b'.fits L) ∧ (∀ L, he.b.fits L → row * L.sz = j0) ∧ (∀ (L : Loc) (t : TypeId) (n : Nat), he.b.typed L t n → b'.typed L t n) ∧ he.b.frozen = false := by
    split at h
    · rename_i ty l hl
      obtain ⟨hb, hK⟩ := cond_none_right h
      simp only [Bool.and_eq_true] at hb
      have h0 : row = 0 := Nat.eq_of_beq_eq_true hb.1
      have hle : fld + vs.length ≤ l.length := Nat.le_of_ble_eq_true hb.2
      subst h0
      exact ⟨_, 0, hK, by rw [hl]; simpa [HB.cells] using hle, by rw [hl]; simp [HB.cells], fun L _ => trivial, fun L _ => by simp, fun L t n ht => by
        rw [hl] at ht
        cases ty with
        | none => trivial
        | some T => exact ⟨ht.1, ht.2.1, by rw [splice_length _ _ _ hle]; exact ht.2.2⟩, by rw [hl]; rfl⟩
    · rename_i b hb
      obtain ⟨l, h, hlen, hn, rfl⟩ := ok.rowK _ _ _ _ h
      obtain ⟨hle, h⟩ := cond_none_right h
      have hle : fld + vs.length ≤ (seg (E.cells b) (row * E.sz b) (E.sz b)).length := Nat.le_of_ble_eq_true hle
      obtain ⟨b', hK, he', hs', hl', _, _, hc'⟩ := ok.setK _ _ _ _ _ h
      rw [hlen] at hle
      have hbnd : row * E.sz b + E.sz b ≤ (E.cells b).length := by
        rw [ok.cells_len]
        calc row * E.sz b + E.sz b = (row + 1) * E.sz b := by rw [Nat.succ_mul]
          _ ≤ E.len b * E.sz b := Nat.mul_le_mul_right _ hn
      refine ⟨.rows b', row * E.sz b, hK, by rw [hb]; show _ ≤ (E.cells b).length; omega, ?_, fun L hf => ?_, fun L hf => ?_, fun L t n ht => by
        rw [hb] at ht
        show t = E.elt b' ∧ L.base = 0
        rw [he']; exact ht, by rw [hb]; rfl⟩
      · rw [hb]
        show E.cells b' = splice (E.cells b) _ _
        rw [hc']
        exact splice_seg _ _ _ _ _ hbnd hle
      · rw [hb] at hf
        exact ⟨hf.1.trans hs'.symm, hf.2.trans hl'.symm⟩
      · rw [hb] at hf; rw [hf.1]
    · cases h
  refine ⟨_, hK, fun φ0 H0 w0 φ w a rvs hl hI hp hvs => ?_⟩
  obtain ⟨L, hL, hb, rfl⟩ := hp.loc hI.rh hh
  obtain ⟨⟨c, t, fz, h1, h2, h3, h4⟩, hfit⟩ := hb
  have hj := hrow L hfit
  have hbnd : L.base + row * L.sz + fld + rvs.length ≤ c.size ∨ rvs = [] := by
    cases rvs with
    | nil => exact .inr rfl
    | cons x xs =>
      left
      have hvl := hvs.length
      obtain ⟨s, hs⟩ := nth_some (l := he.b.cells) (n := j0 + fld + vs.length - 1) (by simp at hvl; omega)
      obtain ⟨v, hv, _⟩ := h3 _ _ hs
      have := (Array.getElem?_eq_some_iff.1 hv).1
      simp at hvl ⊢
      omega
  rcases hbnd with hbnd | rfl
  · obtain ⟨w', c', hrun, ht, hcs, hc⟩ := run_storeCells' (P := E.P) rvs 0 w L.b (L.base + row * L.sz + fld) c t fz h1 hvs.one (by simpa using hbnd) ((h4 hro).1 hnf)
    refine ⟨L, w', rfl, hrun, hI.store hl hL hh hro (by rw [hcs]; exact h2) (fun j s hs => ?_) (hfits L hfit) ⟨fun _ => by rw [hcs]; exact (h4 hro).1 hnf, helt L t _ (by rw [hcs]; exact (h4 hro).2)⟩ ht⟩
    rw [hspl, nth_splice _ _ _ hlen] at hs
    rw [hc]
    split at hs
    · rename_i hjj
      obtain ⟨v, hv, hr⟩ := hvs.nth hs
      have hvl := hvs.length
      refine ⟨v, ?_, hr⟩
      rw [if_pos (by omega), ← hv]
      congr 1; omega
    · rename_i hjj
      obtain ⟨v, hv, hr⟩ := h3 _ _ hs
      have hvl := hvs.length
      refine ⟨v, ?_, hr⟩
      rw [if_neg (by omega)]
      exact hv
  · have hv0 : vs = [] := by have := hvs.length; simpa using this
    subst hv0
    refine ⟨L, w, rfl, by simp [storeCells], hI.store hl hL hh hro h2 (fun j s hs => ?_) (hfits L hfit) ⟨fun _ => (h4 hro).1 hnf, helt L t _ (h4 hro).2⟩ ⟨.refl _, rfl, fun _ _ => rfl, h1⟩⟩
    rw [hspl, splice_eq _ _ _ hlen] at hs
    simp at hs
    exact h3 j s hs
end
end Go.Eng
