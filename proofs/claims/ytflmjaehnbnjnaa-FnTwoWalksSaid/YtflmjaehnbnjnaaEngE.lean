import Derived.Test.YtflmjaehnbnjnaaEngD
set_option linter.all false
namespace Go.Eng
open Go Go.RowKit

section
variable {E : Env} {R : Type}

def RunOk (E : Env) (o : Oper) (F : Fr) (H : Hp E) (v : AV) (H' : Hp E) : Prop :=
  ∀ (φ0 : List PE) (H0 : Hp E) (w0 : World) (φ : List PE) (a : Act) (w : World), φ0.length = H0.length → Inv φ0 H0 w0 φ H w → RF φ F a.tmps →
    ∃ rv φ' w' nx, (execOp a.eval o).run E.P w = .ok nx w' ∧ (nx = .value rv ∨ nx = .skip ∧ rv = undef) ∧ Ext φ φ' ∧ Inv φ0 H0 w0 φ' H' w' ∧ RA φ' v rv

def OpOk (E : Env) (o : Oper) (F : Fr) (H : Hp E) (v : AV) (H' : Hp E) : Prop :=
  ∀ (φ0 : List PE) (H0 : Hp E) (w0 : World) (φ : List PE) (a : Act) (w : World) (next : Act → World → Prop) (Q : Exit → Act → World → Prop), φ0.length = H0.length → Inv φ0 H0 w0 φ H w → RF φ F a.tmps →
    (∀ rv φ' w', Ext φ φ' → Inv φ0 H0 w0 φ' H' w' → RA φ' v rv → next (a.put o.dst rv) w') → o.wp E.P a w next Q

theorem RunOk.op {o : Oper} {F : Fr} {H : Hp E} {v : AV} {H' : Hp E} (h : RunOk E o F H v H') : OpOk E o F H v H' := by
  intro φ0 H0 w0 φ a w next Q hl hI hF hn
  obtain ⟨rv, φ', w', nx, hr, hx, he, hI', hv⟩ := h φ0 H0 w0 φ a w hl hI hF
  unfold Oper.wp
  rw [hr]
  rcases hx with rfl | ⟨rfl, rfl⟩
  · exact hn rv φ' w' he hI' hv
  · exact hn _ φ' w' he hI' hv

theorem RunOk.pure {o : Oper} {F : Fr} {H : Hp E} {v : AV}
    (h : ∀ (φ : List PE) (a : Act) (w : World), RH φ H w → RF φ F a.tmps → ∃ rv, (execOp a.eval o).run E.P w = .ok (.value rv) w ∧ RA φ v rv) : RunOk E o F H v H := by
  intro φ0 H0 w0 φ a w _ hI hF
  obtain ⟨rv, hr, hv⟩ := h φ a w hI.rh hF
  exact ⟨rv, φ, w, _, hr, .inl rfl, .refl _, hI, hv⟩

def Quiet (E : Env) (H H' : Hp E) (p : List PE → Prop) : Prop :=
  ∀ (φ0 : List PE) (H0 : Hp E) (w0 : World) (φ : List PE) (w : World), Inv φ0 H0 w0 φ H w → ∃ φ', Ext φ φ' ∧ Inv φ0 H0 w0 φ' H' w ∧ p φ'

theorem nilSlice_ok (ok : EnvOk E) {H : Hp E} {e : TypeId} {K : SV → Hp E → Option R} {r : R} (h : (E.mkK e [] fun b => newK E H (.rows b) fun id H => K (.slc id none true) H) = some r) :
    ∃ s H', K s H' = some r ∧ Quiet E H H' fun φ => RS φ s (.slice none 0 0) := by
  obtain ⟨b, hK, _, _, hc, _⟩ := ok.mkK _ _ _ _ h
  refine ⟨_, _, hK, fun φ0 H0 w0 φ w hI => ⟨φ ++ [.virt], .push _ _, hI.virt (by simpa using hc), ?_⟩⟩
  refine ⟨rfl, ?_⟩
  rw [← hI.rh.len, nth_last]
  exact ⟨rfl, rfl, trivial⟩

theorem evK_ok (ok : EnvOk E) {F : Fr} {H : Hp E} {x : Operand} {t : TypeId} {K : AV → Hp E → Option R} {r : R} (h : evK E F H x t K = some r) :
    ∃ v H', K v H' = some r ∧ ∀ (φ0 : List PE) (H0 : Hp E) (w0 : World) (φ : List PE) (a : Act) (w : World), Inv φ0 H0 w0 φ H w → RF φ F a.tmps →
      ∃ φ', Ext φ φ' ∧ Inv φ0 H0 w0 φ' H' w ∧ RA φ' v (a.eval x) := by
  unfold evK at h
  split at h
  · split at h
    · obtain ⟨s, H', hK, hq⟩ := nilSlice_ok ok (K := fun s H => K (.sc s) H) h
      refine ⟨.sc s, H', hK, fun φ0 H0 w0 φ a w hI _ => ?_⟩
      obtain ⟨φ', he, hI', hs⟩ := hq φ0 H0 w0 φ w hI
      exact ⟨φ', he, hI', hs⟩
    · cases h
  · obtain ⟨v, hv, hK⟩ := oK_some h
    exact ⟨v, H, hK, fun φ0 H0 w0 φ a w hI hF => ⟨φ, .refl _, hI, ev_ok hv hF⟩⟩

theorem RF.quiet {φ φ' : List PE} (e : Ext φ φ') {F : Fr} {tmps : Array Value} (h : RF φ F tmps) : RF φ' F tmps := h.ext e

theorem zcOk_plain {x : SV} {v : Value} (h : zcOk (.v x) v) (φ : List PE) : RS φ x v := by
  obtain ⟨hp, h⟩ := h
  cases x <;> first | exact h | (simp [SV.still] at hp)

theorem All2.reverse_push {φ : List PE} {acc : List SV} {vs : List Value} {s : SV} {v : Value} (h : All2 (RS φ) acc.reverse vs) (hs : RS φ s v) : All2 (RS φ) (s :: acc).reverse (vs ++ [v]) := by
  rw [List.reverse_cons]
  exact h.append ⟨hs, trivial⟩

theorem zeroCellsK_ok (ok : EnvOk E) : ∀ (zs : List ZC) (H : Hp E) (acc : List SV) (K : List SV → Hp E → Option R) (r : R), zeroCellsK E zs H acc K = some r →
    ∃ l H', K l H' = some r ∧ ∀ (φ0 : List PE) (H0 : Hp E) (w0 : World) (φ : List PE) (w : World) (vs cs : List Value), Inv φ0 H0 w0 φ H w → All2 (RS φ) acc.reverse vs → All2 zcOk zs cs →
      ∃ φ', Ext φ φ' ∧ Inv φ0 H0 w0 φ' H' w ∧ All2 (RS φ') l (vs ++ cs) := by
  intro zs
  induction zs with
  | nil =>
    intro H acc K r h
    refine ⟨_, _, h, fun φ0 H0 w0 φ w vs cs hI ha hc => ⟨φ, .refl _, hI, ?_⟩⟩
    cases cs with
    | nil => simpa using ha
    | cons _ _ => exact hc.elim
  | cons z zs ih =>
    intro H acc K r h
    cases z with
    | v x =>
      obtain ⟨l, H', hK, hq⟩ := ih H (x :: acc) K r h
      refine ⟨l, H', hK, fun φ0 H0 w0 φ w vs cs hI ha hc => ?_⟩
      cases cs with
      | nil => exact hc.elim
      | cons c cs =>
        obtain ⟨φ', he, hI', hl⟩ := hq φ0 H0 w0 φ w (vs ++ [c]) cs hI (ha.reverse_push (zcOk_plain hc.1 φ)) hc.2
        exact ⟨φ', he, hI', by simpa using hl⟩
    | nils e =>
      obtain ⟨s, H1, h1, hq1⟩ := nilSlice_ok ok (K := fun s H => zeroCellsK E zs H (s :: acc) K) h
      obtain ⟨l, H', hK, hq⟩ := ih H1 (s :: acc) K r h1
      refine ⟨l, H', hK, fun φ0 H0 w0 φ w vs cs hI ha hc => ?_⟩
      cases cs with
      | nil => exact hc.elim
      | cons c cs =>
        have hc1 : c = .slice none 0 0 := hc.1
        subst hc1
        obtain ⟨φ1, he1, hI1, hs⟩ := hq1 φ0 H0 w0 φ w hI
        obtain ⟨φ', he, hI', hl⟩ := hq φ0 H0 w0 φ1 w (vs ++ [.slice none 0 0]) cs hI1 ((ha.mono fun _ _ => RS.ext he1).reverse_push hs) hc.2
        exact ⟨φ', he1.trans he, hI', by simpa using hl⟩

theorem Inv.newCells {φ0 : List PE} {H0 : Hp E} {w0 : World} {φ : List PE} {H : Hp E} {w : World} (h : Inv φ0 H0 w0 φ H w) {l : List SV} {c : Array Value} (hc : All2 (RS φ) l c.toList) (t : TypeId) (ty : Option TypeId) (hty : ty = none ∨ ty = some t) :
    ∃ L, L.b = w.heap.size ∧ L.base = 0 ∧ Inv φ0 H0 w0 (φ ++ [.at L]) (H ++ [some ⟨false, .exp ty l⟩]) { w with heap := w.heap.push (.cells c t) } := by
  refine ⟨⟨w.heap.size, 0, c.size, 0, 0⟩, rfl, rfl, h.new (c := c) (t := t) (fz := (0, 0)) rfl rfl rfl (fun j s hj => ?_) trivial ⟨fun o _ => by simp, by
    rcases hty with rfl | rfl
    · trivial
    · exact ⟨rfl, rfl, by have := hc.length; simpa using this.symm⟩⟩ (Pushed.push w _ w.drawn).calm (Pushed.push w _ w.drawn).size (Pushed.push w _ w.drawn).same (Pushed.push w _ w.drawn).at_⟩
  obtain ⟨v, hv, hr⟩ := hc.nth hj
  exact ⟨v, by simpa using hv, hr⟩

theorem Inv.newRows {φ0 : List PE} {H0 : Hp E} {w0 : World} {φ : List PE} {H : Hp E} {w : World} (h : Inv φ0 H0 w0 φ H w) {b : E.B} {c : Array Value} {fz : Nat × Nat} {w' : World} {t : TypeId}
    (hc : ∀ j s, nth (E.cells b) j = some s → ∃ v, c[j]? = some v ∧ RS φ s v) (hfz : (∀ o, o < c.size → (decide (fz.1 ≤ o) && decide (o < fz.2)) = false) ∧ t = E.elt b) (hw : Pushed w w' (.cells c t fz)) :
    ∃ L, L.b = w.heap.size ∧ L.base = 0 ∧ L.n = c.size ∧ L.sz = E.sz b ∧ L.len = E.len b ∧ Inv φ0 H0 w0 (φ ++ [.at L]) (H ++ [some ⟨false, .rows b⟩]) w' :=
  ⟨⟨w.heap.size, 0, c.size, E.sz b, E.len b⟩, rfl, rfl, rfl, rfl, rfl, h.new (c := c) (t := t) (fz := fz) rfl rfl rfl hc ⟨rfl, rfl⟩ ⟨hfz.1, hfz.2, rfl⟩ hw.calm hw.size hw.same hw.at_⟩

theorem RP_last {φ : List PE} {L : Loc} {n : Nat} (hn : φ.length = n) (hb : L.base = 0) : RP (φ ++ [.at L]) n 0 0 (.pointer (some ⟨L.b, 0, none⟩)) := by
  refine ⟨rfl, ?_⟩
  rw [← hn, nth_last]
  simp [hb]

theorem RS_last_slc {φ : List PE} {L : Loc} {n cap : Nat} (hn : φ.length = n) (hb : L.base = 0) (h1 : L.len ≤ cap) (h2 : cap * L.sz ≤ L.n) :
    RS (φ ++ [.at L]) (.slc n none false) (.slice (some ⟨L.b, 0, none⟩) L.len cap) := by
  refine ⟨rfl, ?_⟩
  rw [← hn, nth_last]
  exact ⟨rfl, cap, by rw [hb], h1, by rw [hb]; omega⟩

theorem move_ok (ok : EnvOk E) {o : Oper} {F : Fr} {H : Hp E} {x : Operand} {K : AV → Hp E → Option R} {r : R} (ho : o.op = .move x ∨ o.op = .assign x) (h : evK E F H x o.type K = some r) :
    ∃ v H', K v H' = some r ∧ RunOk E o F H v H' := by
  obtain ⟨v, H', hK, hq⟩ := evK_ok ok h
  refine ⟨v, H', hK, fun φ0 H0 w0 φ a w _ hI hF => ?_⟩
  obtain ⟨φ', he, hI', hv⟩ := hq φ0 H0 w0 φ a w hI hF
  refine ⟨a.eval x, φ', w, .value (a.eval x), ?_, .inl rfl, he, hI', hv⟩
  unfold execOp
  rcases ho with ho | ho <;> rw [ho] <;> rfl

theorem pick_ok {o : Oper} {F : Fr} {H : Hp E} {c x y : Operand} {K : AV → Hp E → Option R} {r : R} {t : Bool} (ho : o.op = .pick c x y) (hc : ev F c = some (.sc (.bool t)))
    (h : (cond t (oK (ev F x) fun v => K v H) (oK (ev F y) fun v => K v H)) = some r) : ∃ v H', K v H' = some r ∧ RunOk E o F H v H' := by
  have key : ∀ z v, ev F z = some v → (t = true ∧ z = x ∨ t = false ∧ z = y) → RunOk E o F H v H := fun z v hz ht => RunOk.pure fun φ a w _ hF => by
    have hcv := ev_ok hc hF
    refine ⟨a.eval z, ?_, ev_ok hz hF⟩
    unfold execOp
    rw [ho]
    have : a.eval c = .bool t := hcv
    simp only [this, asBool, Sem.run_bind, Sem.run_pure, Result.andThen_ok]
    rcases ht with ⟨rfl, rfl⟩ | ⟨rfl, rfl⟩ <;> rfl
  rcases cond_some h with ⟨ht, h⟩ | ⟨ht, h⟩
  · obtain ⟨v, hv, hK⟩ := oK_some h
    exact ⟨v, H, hK, key x v hv (.inl ⟨ht, rfl⟩)⟩
  · obtain ⟨v, hv, hK⟩ := oK_some h
    exact ⟨v, H, hK, key y v hv (.inr ⟨ht, rfl⟩)⟩

theorem alloc_ok (ok : EnvOk E) {o : Oper} {F : Fr} {H : Hp E} {t : TypeId} {K : AV → Hp E → Option R} {r : R} (ho : o.op = .alloc t)
    (h : (oK (E.ty t) fun ti => zeroCellsK E ti.zero H [] fun l H => newK E H (.exp (cond (E.named t) (some t) none) l) fun id H => K (.sc (.ptr id 0 0)) H) = some r) : ∃ v H', K v H' = some r ∧ RunOk E o F H v H' := by
  obtain ⟨ti, hti, h⟩ := oK_some h
  obtain ⟨inf, d, hi, hu, hsz, hby, hag, hshp, ⟨z, hz, hzs, hz2, _⟩, _⟩ := (ty_ok ok hti).ok
  obtain ⟨l, H1, hK, hq⟩ := zeroCellsK_ok ok _ _ _ _ _ h
  refine ⟨_, _, hK, fun φ0 H0 w0 φ a w _ hI hF => ?_⟩
  obtain ⟨φ1, he1, hI1, hl⟩ := hq φ0 H0 w0 φ w [] z.cells.toList hI trivial hz2
  obtain ⟨L, hLb, hLbase, hI2⟩ := hI1.newCells (c := z.cells) (by simpa using hl) t (cond (E.named t) (some t) none) (by cases E.named t <;> simp)
  refine ⟨.pointer (some ⟨w.heap.size, 0, none⟩), φ1 ++ [.at L], _, .value (.pointer (some ⟨w.heap.size, 0, none⟩)), ?_, .inl rfl, he1.trans (.push _ _), hI2, ?_⟩
  · unfold execOp
    rw [ho]
    simp only [Instr.alloc, Sem.run_bind]
    rw [run_zeroValue' hi hz]
    rfl
  · rw [← hLb]
    exact RP_last hI1.rh.len hLbase

theorem box_ok {o : Oper} {F : Fr} {H : Hp E} {t : TypeId} {x : Operand} {v : AV} {K : AV → Hp E → Option R} {r : R} (ho : o.op = .box t x) (hx : ev F x = some v) (hv : ∀ l, v ≠ .tup l)
    (h : (newK E H (.exp none (avCells v)) fun id H => K (.sc (.ptr id 0 0)) H) = some r) : ∃ v H', K v H' = some r ∧ RunOk E o F H v H' := by
  refine ⟨_, _, h, fun φ0 H0 w0 φ a w _ hI hF => ?_⟩
  have hc := (ev_ok hx hF).cells hv
  obtain ⟨L, hLb, hLbase, hI2⟩ := hI.newCells (c := (a.eval x).cells) hc t none (.inl rfl)
  refine ⟨.pointer (some ⟨w.heap.size, 0, none⟩), φ ++ [.at L], _, .value (.pointer (some ⟨w.heap.size, 0, none⟩)), ?_, .inl rfl, .push _ _, hI2, ?_⟩
  · unfold execOp
    rw [ho]
    rfl
  · rw [← hLb]
    exact RP_last hI.rh.len hLbase

theorem load_ok (ok : EnvOk E) {o : Oper} {F : Fr} {H : Hp E} {t : TypeId} {x : Operand} {id row fld : Nat} {K : AV → Hp E → Option R} {r : R} (ho : o.op = .load t x) (hx : ev F x = some (.sc (.ptr id row fld)))
    (h : (loadK E H t id row fld fun v => K v H) = some r) : ∃ v H', K v H' = some r ∧ RunOk E o F H v H' := by
  obtain ⟨v, hK, _, hq⟩ := loadK_ok ok h
  refine ⟨v, H, hK, RunOk.pure fun φ a w hr hF => ?_⟩
  obtain ⟨rv, hrun, hv⟩ := hq φ w (a.eval x) hr (ev_ok hx hF)
  refine ⟨rv, ?_, hv⟩
  unfold execOp
  rw [ho]
  simp only [Sem.run_bind, hrun, Result.andThen_ok]
  rfl

theorem store_ok (ok : EnvOk E) {o : Oper} {F : Fr} {H : Hp E} {t : TypeId} {x y : Operand} {id row fld : Nat} {K : AV → Hp E → Option R} {r : R} (ho : o.op = .store t x y) (hx : ev F x = some (.sc (.ptr id row fld)))
    (h : (evK E F H y t fun v H => oK (E.ty t) fun ti => match v with
      | .tup _ => none
      | v => cond (Nat.beq (avCells v).length ti.size) (storeCellsK E H id row fld (avCells v) fun H => K (.tup []) H) none) = some r) : ∃ v H', K v H' = some r ∧ RunOk E o F H v H' := by
  obtain ⟨v, H1, h, hq⟩ := evK_ok ok h
  obtain ⟨ti, hti, h⟩ := oK_some h
  obtain ⟨inf, d, hi, hu, hsz, hby, hag, hshp, _⟩ := (ty_ok ok hti).ok
  have hv : (∀ l, v ≠ .tup l) ∧ cond (Nat.beq (avCells v).length ti.size) (storeCellsK E H1 id row fld (avCells v) fun H => K (.tup []) H) none = some r := by
    cases v with
    | tup l => cases h
    | sc s => exact ⟨fun _ e => (by cases e), h⟩
    | agg s => exact ⟨fun _ e => (by cases e), h⟩
  obtain ⟨hv, h⟩ := hv
  obtain ⟨hn, h⟩ := cond_none_right h
  have hn : (avCells v).length = ti.size := Nat.eq_of_beq_eq_true hn
  obtain ⟨H2, hK, hst⟩ := storeCellsK_ok ok h
  refine ⟨_, _, hK, fun φ0 H0 w0 φ a w hl hI hF => ?_⟩
  obtain ⟨φ1, he1, hI1, hy⟩ := hq φ0 H0 w0 φ a w hI hF
  have hcs := RA.cells hy hv
  obtain ⟨L, w', hax, hrun, hI'⟩ := hst φ0 H0 w0 φ1 w (a.eval x) (a.eval y).cells.toList hl hI1 ((ev_ok hx (hF.ext he1)) : RP φ1 id row fld (a.eval x)) hcs
  refine ⟨undef, φ1, w', .skip, ?_, .inr ⟨rfl, rfl⟩, he1, hI', [], rfl, trivial⟩
  have hex : execOp a.eval o = (do Instr.storeAt t (a.eval x) (a.eval y); pure .skip) := by unfold execOp; rw [ho]
  rw [hex, hax]
  have hsize : (a.eval y).cells.size = inf.size := by
    have := hcs.length
    rw [hsz, ← hn, this]
    simp
  simp only [Instr.storeAt, Instr.sureAddr, storeVar, Sem.run_bind, Sem.run_pure, Result.andThen_ok]
  rw [run_sizeOf' hi]
  simp only [Result.andThen_ok, ne_eq, hsize, not_true_eq_false, if_false]
  rw [hrun]
  rfl
end
end Go.Eng
