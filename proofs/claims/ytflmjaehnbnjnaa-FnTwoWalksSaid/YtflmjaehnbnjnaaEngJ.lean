import Derived.Test.YtflmjaehnbnjnaaEngI
set_option linter.all false
namespace Go.Eng
open Go Go.RowKit

section
variable {E : Env} {R : Type}

theorem nth_flatten_replicate {α : Type} (z : List α) : ∀ (n j : Nat), nth ((List.replicate n z).flatten) j = if j < n * z.length then nth z (j % z.length) else none := by
  intro n
  induction n with
  | zero => intro j; simp [nth]
  | succ n ih =>
    intro j
    rw [List.replicate_succ, List.flatten_cons, nth_append]
    by_cases h : j < z.length
    · rw [if_pos h, if_pos (by rw [Nat.succ_mul]; omega), Nat.mod_eq_of_lt h]
    · rw [if_neg h, ih (j - z.length)]
      by_cases h2 : j - z.length < n * z.length
      · rw [if_pos h2, if_pos (by rw [Nat.succ_mul]; omega)]
        congr 1
        rw [← Nat.mod_eq_sub_mod (by omega)]
      · rw [if_neg h2, if_neg (by rw [Nat.succ_mul]; omega)]

theorem zc_plain_all {φ : List PE} : ∀ (z : List SV) (cs : List Value), All2 zcOk (z.map .v) cs → All2 (RS φ) z cs
  | [], [], _ => trivial
  | _ :: z, _ :: cs, h => ⟨zcOk_plain h.1 φ, zc_plain_all z cs h.2⟩
  | [], _ :: _, h => h.elim
  | _ :: _, [], h => h.elim

theorem range_zero_map (f : Nat → Value) : (Array.range 0).map f = #[] := by
  apply Array.ext'
  simp

theorem makeSlice_ok (ok : EnvOk E) {o : Oper} {F : Fr} {H : Hp E} {t : TypeId} {l c : Operand} {K : AV → Hp E → Option R} {r : R} (ho : o.op = .makeSlice t l c)
    (h : (oK (E.ty t) fun ti => match ti.shp with
      | .slice e => oK (E.ty e) fun te => intK (ev F l) fun _ n => intK (ev F c) fun _ m =>
          cond (decide (n = m) && decide (0 ≤ n) && roomOk n.toNat te.bytes) (E.zeroK e n.toNat fun b => newK E H (.rows b) fun id H => K (.sc (.slc id none false)) H) none
      | _ => none) = some r) : ∃ v H', K v H' = some r ∧ RunOk E o F H v H' := by
  obtain ⟨ti, hti, h⟩ := oK_some h
  obtain ⟨inf, d, hinf, hu, hsz, hby, hag, hshp, _⟩ := (ty_ok ok hti).ok
  have hex : ∀ a : Act, execOp a.eval o = (do Pure.pure (.value (← Instr.makeSlice t (a.eval l) (a.eval c)))) := fun a => by unfold execOp; rw [ho]
  split at h
  · rename_i e hsh
    rw [hsh] at hshp
    have hd : d = .slice e := hshp
    subst hd
    obtain ⟨te, hte, h⟩ := oK_some h
    obtain ⟨inf2, d2, hinf2, hu2, hsz2, hby2, _, _, ⟨z, hz, hzs, hzc, _⟩, _⟩ := (ty_ok ok hte).ok
    obtain ⟨k1, n, hl, h⟩ := intK_some h
    obtain ⟨k2, m, hc, h⟩ := intK_some h
    obtain ⟨hb, h5⟩ := cond_none_right h
    simp only [Bool.and_eq_true, decide_eq_true_eq, roomOk] at hb
    obtain ⟨⟨rfl, hn0⟩, hb1, hb2⟩ := hb
    have hb1 : n.toNat ≤ 2 ^ 47 := Nat.le_of_ble_eq_true hb1
    have hb2 : n.toNat * te.bytes ≤ 2 ^ 47 := Nat.le_of_ble_eq_true hb2
    obtain ⟨b, hK, hbe, hbl, tz, zz, htz, hzz, hzzl, hbc⟩ := ok.zeroK _ _ _ _ h5
    obtain ⟨infb, hinfb, hinfbs, hpos⟩ := ok.info b
    rw [hbe, hinf2] at hinfb
    cases hinfb
    rw [hte] at htz; cases htz
    refine ⟨_, _, hK, fun φ0 H0 w0 φ a w hl2 hI hF => ?_⟩
    obtain el : a.eval l = .int k1 n := ev_ok hl hF
    obtain ec : a.eval c = .int k2 n := ev_ok hc hF
    have hzall : All2 (RS φ) zz z.cells.toList := zc_plain_all zz _ (by rw [← hzz]; exact hzc)
    have hzl := hzall.length
    have hzsz : z.cells.size = E.sz b := by rw [← hzzl, hzl]; simp
    have hwrap : IntKind.i64.wrap n = n := by
      unfold IntKind.wrap
      simp [IntKind.bits, IntKind.signed]
      omega
    -- the cells of the new row
    have hcell : ∀ (cs : Array Value), cs = (if n.toNat * E.sz b = 0 then #[] else (Array.range (n.toNat * E.sz b)).map fun i => z.cells[i % z.cells.size]!) → cs.size = n.toNat * E.sz b ∧
        ∀ j s, nth (E.cells b) j = some s → ∃ v, cs[j]? = some v ∧ RS φ s v := fun cs hcs => by
      refine ⟨?_, fun j s hj => ?_⟩
      · subst hcs
        split <;> simp [*]
      · rw [hbc, nth_flatten_replicate, hzzl] at hj
        split at hj
        · rename_i hlt
          obtain ⟨v, hv, hr⟩ := hzall.nth hj
          refine ⟨v, ?_, hr⟩
          subst hcs
          rw [if_neg (by omega), Array.getElem?_map, Array.getElem?_range, if_pos hlt]
          have hv' : z.cells[j % E.sz b]? = some v := by simpa using hv
          simp only [Option.map_some, hzsz]
          rw [getElem!_def, hv']
        · cases hj
    generalize hcsd : (if n.toNat * E.sz b = 0 then #[] else (Array.range (n.toNat * E.sz b)).map fun i => z.cells[i % z.cells.size]!) = cs at hcell
    obtain ⟨hcsz, hcc⟩ := hcell cs rfl
    obtain ⟨L, hLb, hLbase, hLn, hLsz, hLlen, hI'⟩ := hI.newRows (b := b) (c := cs) (fz := (0, 0)) (t := e) hcc ⟨fun o _ => by simp, hbe.symm⟩ (Pushed.push w _ w.drawn)
    refine ⟨.slice (some ⟨w.heap.size, 0, none⟩) n.toNat n.toNat, _, _, _, exec_v (hex a) ?_, .inl rfl, .push _ _, hI', ?_⟩
    · rw [el, ec]
      unfold Instr.makeSlice
      simp only [Sem.run_bind, run_underlying' hu, Result.andThen_ok, asInt, asIntOf, Sem.run_pure, run_typeInfo' hinf2, hby2, hwrap]
      have h1 : (decide (n < 0) || decide ((te.bytes : Int) * n > 2 ^ 48)) = false := by
        have : ((te.bytes : Int) * n) = ((n.toNat * te.bytes : Nat) : Int) := by
          rw [Int.natCast_mul, Int.toNat_of_nonneg hn0, Int.mul_comm]
        simp only [Bool.or_eq_false_iff, decide_eq_false_iff_not]
        rw [this]
        omega
      have h2 : decide (n < 0) = false := by simpa using hn0
      rw [h1, h2]
      simp only [Bool.false_or, gt_iff_lt, Int.lt_irrefl, decide_false, Bool.false_eq_true, if_false, Sem.run_bind, run_askRoom, Result.andThen_ok, run_sizeOf' hinf2, hinfbs, Sem.run_pure]
      by_cases h0 : n.toNat * E.sz b = 0
      · rw [if_pos h0] at hcsd
        simp only [h0, if_true, Sem.run_pure, Result.andThen_ok, newRow, Sem.run_bind, run_newObj]
        rw [← hcsd, range_zero_map]
      · rw [if_neg h0] at hcsd
        simp only [h0, if_false, Sem.run_bind, run_zeroValue' hinf2 hz, Sem.run_pure, Result.andThen_ok, newRow, run_newObj]
        rw [← hcsd]
    · have := RS_last_slc (φ := φ) (L := L) (n := H.length) (cap := n.toNat) hI.rh.len hLbase (by rw [hLlen, hbl]; exact Nat.le_refl _) (by rw [hLsz, hLn, hcsz]; exact Nat.le_refl _)
      rw [hLb, hLlen, hbl] at this
      exact this
  · cases h

theorem foldl_set (off : Nat) : ∀ (vs : List Value) (j : Nat) (cells : Array Value), off + j + vs.length ≤ cells.size →
    ∃ c', (vs.zipIdx j).foldl (fun cs (x : Value × Nat) => cs.setIfInBounds (off + x.2) x.1) cells = c' ∧ c'.size = cells.size ∧
      ∀ m, c'[m]? = if off + j ≤ m ∧ m < off + j + vs.length then vs[m - (off + j)]? else cells[m]? := by
  intro vs
  induction vs with
  | nil => intro j cells _; exact ⟨cells, rfl, rfl, fun m => by rw [if_neg (fun e => by have := e.1; have := e.2; simp at this; omega)]⟩
  | cons v vs ih =>
    intro j cells hb
    simp only [List.length_cons] at hb
    obtain ⟨c', h1, h2, h3⟩ := ih (j + 1) (cells.setIfInBounds (off + j) v) (by simp; omega)
    refine ⟨c', ?_, by rw [h2]; simp, fun m => ?_⟩
    · rw [List.zipIdx_cons, List.foldl_cons]; exact h1
    · rw [h3 m]
      simp only [List.length_cons, Array.getElem?_setIfInBounds]
      by_cases hm : m = off + j
      · subst hm
        rw [if_neg (by omega), if_pos (by omega), if_pos (by omega)]
        simp
      · by_cases hm2 : off + (j + 1) ≤ m ∧ m < off + (j + 1) + vs.length
        · rw [if_pos hm2, if_pos (by omega)]
          obtain ⟨d, hd⟩ : ∃ d, m - (off + j) = d + 1 := ⟨m - (off + j) - 1, by omega⟩
          rw [hd, List.getElem?_cons_succ]
          congr 1; omega
        · rw [if_neg hm2, if_neg (by omega), if_neg (by omega)]

theorem fillStep {φ : List PE} {l vs : List SV} {cells : Array Value} {v : Value} {off : Nat} (hl : All2 (RS φ) l cells.toList) (hv : All2 (RS φ) vs v.cells.toList) (hb : off + vs.length ≤ l.length) :
    v.cells.size = vs.length ∧ off + v.cells.size ≤ cells.size ∧ ∃ c', v.cells.zipIdx.foldl (fun cs (x : Value × Nat) => cs.setIfInBounds (off + x.2) x.1) cells = c' ∧ All2 (RS φ) (splice l off vs) c'.toList := by
  have h1 := hl.length
  have h2 := hv.length
  simp only [Array.length_toList] at h1 h2
  refine ⟨h2.symm, by omega, ?_⟩
  obtain ⟨c', h3, h4, h5⟩ := foldl_set off v.cells.toList 0 cells (by simp; omega)
  refine ⟨c', ?_, All2.of_nth (by rw [splice_length _ _ _ hb]; simp; omega) fun n s hs => ?_⟩
  · rw [← h3, ← Array.foldl_toList, Array.toList_zipIdx]
  · rw [nth_splice _ _ _ hb] at hs
    rw [Array.getElem?_toList, h5]
    split at hs
    · obtain ⟨u, hu, hr⟩ := hv.nth hs
      exact ⟨u, by rw [if_pos (by simp; omega)]; simpa using hu, hr⟩
    · obtain ⟨u, hu, hr⟩ := hl.nth hs
      exact ⟨u, by rw [if_neg (by simp; omega)]; simpa using hu, hr⟩

def PartRel (φ : List PE) (p : Nat × List SV) (q : Nat × Value) : Prop := p.1 = q.1 ∧ All2 (RS φ) p.2 q.2.cells.toList

theorem partsOf_ok {F : Fr} {φ : List PE} {a : Act} (hF : RF φ F a.tmps) : ∀ (parts : List (Nat × Operand)) (ps : List (Nat × List SV)), partsOf F parts = some ps → All2 (PartRel φ) ps (parts.map fun x => (x.1, a.eval x.2)) := by
  intro parts
  induction parts with
  | nil => intro ps h; cases h; trivial
  | cons p parts ih =>
    intro ps h
    obtain ⟨i, x⟩ := p
    unfold partsOf at h
    split at h
    · cases h
    · rename_i v r hnt hv hr
      cases h
      exact ⟨⟨rfl, (ev_ok hv hF).cells (fun l e => hnt l e)⟩, ih _ hr⟩
    · cases h

theorem fill_struct {φ : List PE} {fs : List FI} {place : Nat → Option (Nat × Nat)} (hp : ∀ i f, nth fs i = some f → place i = some (f.off, f.size)) :
    ∀ (ps : List (Nat × List SV)) (qs : List (Nat × Value)) (l l' : List SV) (cells : Array Value), All2 (PartRel φ) ps qs → All2 (RS φ) l cells.toList → fillCells fs l ps = some l' →
      ∃ c', Instr.fill place cells qs = some c' ∧ All2 (RS φ) l' c'.toList := by
  intro ps
  induction ps with
  | nil =>
    intro qs l l' cells hq hl h
    cases qs with
    | nil => cases h; exact ⟨cells, rfl, hl⟩
    | cons _ _ => exact hq.elim
  | cons p ps ih =>
    intro qs l l' cells hq hl h
    cases qs with
    | nil => exact hq.elim
    | cons q qs =>
      obtain ⟨i, vs⟩ := p
      obtain ⟨i', v⟩ := q
      obtain ⟨⟨hi, hv⟩, hq⟩ := hq
      have hi : i = i' := hi
      subst hi
      simp only [fillCells] at h
      split at h
      · rename_i f hf
        obtain ⟨hb, h⟩ := cond_none_right h
        simp only [Bool.and_eq_true] at hb
        have hb1 : vs.length = f.size := Nat.eq_of_beq_eq_true hb.1
        have hb2 : f.off + vs.length ≤ l.length := Nat.le_of_ble_eq_true hb.2
        obtain ⟨h1, h2, c', h3, h4⟩ := fillStep (v := v) (vs := vs) hl hv hb2
        obtain ⟨c'', h5, h6⟩ := ih qs _ l' c' hq h4 h
        refine ⟨c'', ?_, h6⟩
        simp only [Instr.fill, hp i f hf]
        rw [if_neg (by simp; omega), h3, h5]
      · cases h

theorem mapM_run {P : Program} {α β : Type} (f : α → Sem β) (g : α → β) (w : World) : ∀ (l : List α), (∀ a ∈ l, (f a).run P w = .ok (g a) w) → (l.mapM f).run P w = .ok (l.map g) w := by
  intro l
  induction l with
  | nil => intro _; simp
  | cons a l ih =>
    intro h
    simp only [List.mapM_cons, Sem.run_bind, h a (by simp), Result.andThen_ok, ih (fun b hb => h b (by simp [hb])), List.map_cons, Sem.run_pure]

theorem nth_arrFI {size : Nat} : ∀ {n i j : Nat} {f : FI}, nth (arrFI size i n) j = some f → f = ⟨(i + j) * size, size, false⟩
  | 0, _, _, _, h => by cases h
  | n + 1, i, 0, f, h => by cases h; rfl
  | n + 1, i, j + 1, f, h => by
    have := nth_arrFI (n := n) (i := i + 1) (j := j) (f := f) h
    rw [this, show i + 1 + j = i + (j + 1) by omega]

theorem build_ok (ok : EnvOk E) {o : Oper} {F : Fr} {H : Hp E} {t : TypeId} {parts : Array (Nat × Operand)} {K : AV → Hp E → Option R} {r : R} (ho : o.op = .build t parts)
    (h : (oK (E.ty t) fun ti => match ti.shp with
      | .struct fs => oK (partsOf F parts.toList) fun ps => zeroCellsK E ti.zero H [] fun l H => oK (fillCells fs l ps) fun l => K (.agg l) H
      | .array n e => oK (E.ty e) fun te => oK (partsOf F parts.toList) fun ps => zeroCellsK E ti.zero H [] fun l H => oK (fillCells (arrFI te.size 0 n) l ps) fun l => K (.agg l) H
      | _ => none) = some r) : ∃ v H', K v H' = some r ∧ RunOk E o F H v H' := by
  obtain ⟨ti, hti, h⟩ := oK_some h
  obtain ⟨inf, d, hinf, hu, hsz, hby, hag, hshp, ⟨z, hz, hzs, hzc, _⟩, _⟩ := (ty_ok ok hti).ok
  split at h
  · rename_i fs hsh
    rw [hsh] at hshp
    obtain ⟨gs, rfl, hgs, hall⟩ := hshp
    obtain ⟨ps, hps, h⟩ := oK_some h
    obtain ⟨l, H1, h, hq⟩ := zeroCellsK_ok ok _ _ _ _ _ h
    obtain ⟨l', hl', hK⟩ := oK_some h
    refine ⟨_, _, hK, fun φ0 H0 w0 φ a w _ hI hF => ?_⟩
    obtain ⟨φ1, he1, hI1, hl⟩ := hq φ0 H0 w0 φ w [] z.cells.toList hI trivial hzc
    have hl : All2 (RS φ1) l z.cells.toList := by simpa using hl
    have hpr := partsOf_ok (hF.ext he1) _ _ hps
    -- the fields' places
    have hinfo : ∀ g ∈ gs.toList, ∃ i2, E.P.info? g.type = some i2 := fun g hg => by
      obtain ⟨j, hj, rfl⟩ := List.getElem_of_mem hg
      simp only [Array.length_toList] at hj
      obtain ⟨f, hf⟩ := nth_some (l := fs) (n := j) (by omega)
      obtain ⟨g', i2, _, h1, _, h3, _⟩ := hall j f hf
      have : gs[j]? = some gs.toList[j] := by simp [hj]
      rw [this] at h1; cases h1
      exact ⟨i2, h3⟩
    have hplaces : (gs.mapM fun f => (do Pure.pure (f.offset, ← sizeOf f.type) : Sem (Nat × Nat))).run E.P w = .ok ((gs.toList.map fun f => (f.offset, ((E.P.info? f.type).map (·.size)).getD 0)).toArray) w := by
      rw [Array.mapM_eq_mapM_toList]
      simp only [Sem.run_map]
      rw [mapM_run (g := fun f => (f.offset, ((E.P.info? f.type).map (·.size)).getD 0))]
      · rfl
      · intro g hg
        obtain ⟨i2, h2⟩ := hinfo g hg
        simp only [Sem.run_bind, run_sizeOf' h2, Result.andThen_ok, Sem.run_pure, h2, Option.map_some, Option.getD_some]
    obtain ⟨c', hfill, hc'⟩ := fill_struct (φ := φ1) (fs := fs) (place := ((gs.toList.map fun f => (f.offset, ((E.P.info? f.type).map (·.size)).getD 0)).toArray[·]?)) (fun i f hf => by
      obtain ⟨g, i2, _, h1, h2, h3, h4, _⟩ := hall i f hf
      have : gs.toList[i]? = some g := by simpa using h1
      simp [h1, h2, h3, h4]) ps _ l l' z.cells hpr hl hl'
    refine ⟨.agg c', φ1, w, _, exec_v (s := Instr.build t (parts.map fun x => (x.1, a.eval x.2))) (by unfold execOp; rw [ho]) ?_, .inl rfl, he1, hI1, c'.toList, by rw [Array.toArray_toList], hc'⟩
    unfold Instr.build
    simp only [Sem.run_bind, run_zeroValue' hinf hz, Result.andThen_ok, run_underlying' hu]
    rw [hplaces]
    simp only [Result.andThen_ok, Array.toList_map]
    rw [hfill]
    rfl
  · rename_i n e hsh
    rw [hsh] at hshp
    have hd : d = .array n e := hshp
    subst hd
    obtain ⟨te, hte, h⟩ := oK_some h
    obtain ⟨inf2, d2, hinf2, hu2, hsz2, _⟩ := (ty_ok ok hte).ok
    obtain ⟨ps, hps, h⟩ := oK_some h
    obtain ⟨l, H1, h, hq⟩ := zeroCellsK_ok ok _ _ _ _ _ h
    obtain ⟨l', hl', hK⟩ := oK_some h
    refine ⟨_, _, hK, fun φ0 H0 w0 φ a w _ hI hF => ?_⟩
    obtain ⟨φ1, he1, hI1, hl⟩ := hq φ0 H0 w0 φ w [] z.cells.toList hI trivial hzc
    have hl : All2 (RS φ1) l z.cells.toList := by simpa using hl
    have hpr := partsOf_ok (hF.ext he1) _ _ hps
    obtain ⟨c', hfill, hc'⟩ := fill_struct (φ := φ1) (fs := arrFI te.size 0 n) (place := fun i => some (i * te.size, te.size)) (fun i f hf => by
      have := nth_arrFI hf
      rw [this]; simp) ps _ l l' z.cells hpr hl hl'
    refine ⟨.agg c', φ1, w, _, exec_v (s := Instr.build t (parts.map fun x => (x.1, a.eval x.2))) (by unfold execOp; rw [ho]) ?_, .inl rfl, he1, hI1, c'.toList, by rw [Array.toArray_toList], hc'⟩
    unfold Instr.build
    simp only [Sem.run_bind, run_zeroValue' hinf hz, Result.andThen_ok, run_underlying' hu, run_sizeOf' hinf2, hsz2, Array.toList_map]
    rw [hfill]
    rfl
  · cases h

theorem litRows_flatten (size : Nat) : ∀ (ps : List (Nat × List SV)) (rows : List (List SV)), (∀ r ∈ rows, r.length = size) → (∀ p ∈ ps, p.1 < rows.length ∧ p.2.length = size) →
    ∀ (φ : List PE) (qs : List (Nat × Value)) (cells : Array Value), All2 (PartRel φ) ps qs → All2 (RS φ) rows.flatten cells.toList →
      ∃ c', Instr.fill (fun i => some (i * size, size)) cells qs = some c' ∧ All2 (RS φ) (litRows rows ps).flatten c'.toList := by
  intro ps
  induction ps with
  | nil =>
    intro rows _ _ φ qs cells hq hl
    cases qs with
    | nil => exact ⟨cells, rfl, hl⟩
    | cons _ _ => exact hq.elim
  | cons p ps ih =>
    intro rows hrows hps φ qs cells hq hl
    cases qs with
    | nil => exact hq.elim
    | cons q qs =>
      obtain ⟨i, vs⟩ := p
      obtain ⟨i', v⟩ := q
      obtain ⟨⟨hi, hv⟩, hq⟩ := hq
      have hi : i = i' := hi
      subst hi
      obtain ⟨hlt, hlen⟩ := hps (i, vs) (by simp)
      have hlt : i < rows.length := hlt
      have hlen : vs.length = size := hlen
      have hfl : ∀ (rows : List (List SV)) (i : Nat), (∀ r ∈ rows, r.length = size) → i < rows.length → rows.flatten.length = rows.length * size ∧ (nset rows i vs).flatten = splice rows.flatten (i * size) vs := by
        intro rows
        induction rows with
        | nil => intro i _ h; simp at h
        | cons r rows ih =>
          intro i hr hi
          have hr0 : r.length = size := hr r (by simp)
          have hrest : rows.flatten.length = rows.length * size := by
            clear ih hi
            induction rows with
            | nil => simp
            | cons r' rows ih2 =>
              have := ih2 (fun x hx => hr x (by simp at hx ⊢; rcases hx with h | h <;> simp [h]))
              rw [List.flatten_cons, List.length_append, this, hr r' (by simp), List.length_cons, Nat.succ_mul]; omega
          refine ⟨by rw [List.flatten_cons, List.length_append, hrest, hr0, List.length_cons, Nat.succ_mul]; omega, ?_⟩
          cases i with
          | zero =>
            simp only [nset, List.flatten_cons, Nat.zero_mul]
            rw [splice_eq _ _ _ (by simp; omega)]
            simp only [List.take_zero, List.nil_append, Nat.zero_add]
            rw [hlen, ← hr0, List.drop_left]
          | succ i =>
            simp only [nset, List.flatten_cons]
            have hi' : i < rows.length := by simpa using hi
            rw [(ih i (fun x hx => hr x (by simp [hx])) hi').2]
            have hle : i * size + size ≤ rows.length * size := by
              calc i * size + size = (i + 1) * size := by rw [Nat.succ_mul]
                _ ≤ rows.length * size := Nat.mul_le_mul_right _ hi'
            rw [splice_eq _ _ _ (by rw [hrest]; omega), splice_eq _ _ _ (by rw [List.length_append, hrest, hr0, Nat.succ_mul]; omega)]
            rw [show (i + 1) * size = r.length + i * size from by rw [Nat.succ_mul, hr0]; omega]
            rw [List.take_length_add_append, Nat.add_assoc, List.drop_length_add_append]
            simp [List.append_assoc]
      obtain ⟨hfl1, hfl2⟩ := hfl rows i hrows hlt
      have hle : i * size + size ≤ rows.length * size := by
        calc i * size + size = (i + 1) * size := by rw [Nat.succ_mul]
          _ ≤ rows.length * size := Nat.mul_le_mul_right _ hlt
      obtain ⟨h1, h2, c', h3, h4⟩ := fillStep (v := v) (vs := vs) (off := i * size) hl hv (by omega)
      rw [← hfl2] at h4
      obtain ⟨c'', h5, h6⟩ := ih (nset rows i vs) (fun r hr => by
        rw [nset_eq] at hr
        rcases List.mem_or_eq_of_mem_set hr with h | h
        · exact hrows r h
        · rw [h]; exact hlen) (fun p hp => by simpa using hps p (by simp [hp])) φ qs c' hq h4
      refine ⟨c'', ?_, h6⟩
      simp only [Instr.fill]
      rw [if_neg (by simp; omega), h3, h5]

theorem plainZero_ok : ∀ (zs : List ZC) (z : List SV), plainZero zs = some z → zs = z.map .v
  | [], _, h => by cases h; rfl
  | .v x :: zs, _, h => by
    unfold plainZero at h
    split at h
    · rename_i r hr; cases h; rw [plainZero_ok zs r hr]; rfl
    · cases h
  | .nils _ :: _, _, h => by cases h

theorem Inv.newCells0 {φ0 : List PE} {H0 : Hp E} {w0 : World} {φ : List PE} {H : Hp E} {w : World} (h : Inv φ0 H0 w0 φ H w) {l : List SV} {c : Array Value} (hc : All2 (RS φ) l c.toList) (t : TypeId) :
    Inv φ0 H0 w0 (φ ++ [.at ⟨w.heap.size, 0, c.size, 0, 0⟩]) (H ++ [some ⟨false, .exp none l⟩]) { w with heap := w.heap.push (.cells c t) } := by
  refine h.new (c := c) (t := t) (fz := (0, 0)) rfl rfl rfl (fun j s hj => ?_) trivial ⟨fun o _ => by simp, trivial⟩ (Pushed.push w _ w.drawn).calm (Pushed.push w _ w.drawn).size (Pushed.push w _ w.drawn).same (Pushed.push w _ w.drawn).at_
  obtain ⟨v, hv, hr⟩ := hc.nth hj
  exact ⟨v, by simpa using hv, hr⟩

theorem zc_one : ∀ (z : List ZC) (cs : List Value), All2 zcOk z cs → ∀ v ∈ cs, v.oneCell' = true
  | [], [], _, v, hv => by cases hv
  | c :: z, x :: cs, h, v, hv => by
    rcases List.mem_cons.1 hv with rfl | hv
    · have h1 : zcOk c v := h.1
      cases c with
      | v s => exact RS.one h1.2
      | nils e => rw [show v = .slice none 0 0 from h1]; rfl
    · exact zc_one z cs h.2 v hv
  | [], _ :: _, h, _, _ => h.elim
  | _ :: _, [], h, _, _ => h.elim

theorem buildSlice_ok (ok : EnvOk E) {o : Oper} {F : Fr} {H : Hp E} {t : TypeId} {n : Nat} {parts : Array (Nat × Operand)} {K : AV → Hp E → Option R} {r : R} (ho : o.op = .buildSlice t n parts)
    (h : (oK (E.ty t) fun ti => match ti.shp with
      | .slice e => oK (E.ty e) fun te => oK (partsOf F parts.toList) fun ps =>
        cond (Nat.ble (n * te.size) (2 ^ 24) && ps.all fun p => Nat.blt p.1 n && Nat.beq p.2.length te.size)
          (match plainZero te.zero with
            | some z => E.mkK e (litRows (List.replicate n z) ps) fun b => newK E H (.rows b) fun id H => K (.sc (.slc id none false)) H
            | none => newK E H (.exp none (litRows (List.replicate n (List.replicate te.size .top)) ps).flatten) fun id H => K (.sc (.slc id (some (0, n, 0)) false)) H) none
      | _ => none) = some r) : ∃ v H', K v H' = some r ∧ RunOk E o F H v H' := by
  obtain ⟨ti, hti, h⟩ := oK_some h
  obtain ⟨inf, d, hinf, hu, hsz, hby, hag, hshp, _⟩ := (ty_ok ok hti).ok
  split at h
  · rename_i e hsh
    rw [hsh] at hshp
    have hd : d = .slice e := hshp
    subst hd
    obtain ⟨te, hte, h⟩ := oK_some h
    obtain ⟨inf2, d2, hinf2, hu2, hsz2, hby2, _, _, ⟨z, hz, hzs, hzc, _⟩, _⟩ := (ty_ok ok hte).ok
    obtain ⟨ps, hps, h⟩ := oK_some h
    obtain ⟨hb, h⟩ := cond_none_right h
    simp only [Bool.and_eq_true, List.all_eq_true] at hb
    obtain ⟨hb1, hb2⟩ := hb
    have hb1 : n * te.size ≤ 2 ^ 24 := Nat.le_of_ble_eq_true hb1
    split at h
    · rename_i zz hzz
      have hzz := plainZero_ok _ _ hzz
      obtain ⟨b, hK, hbe, hbl, hbc, hbrow⟩ := ok.mkK _ _ _ _ h
      obtain ⟨infb, hinfb, hinfbs, hpos⟩ := ok.info b
      rw [hbe, hinf2] at hinfb
      cases hinfb
      refine ⟨_, _, hK, fun φ0 H0 w0 φ a w hl2 hI hF => ?_⟩
      have hzall : All2 (RS φ) zz z.cells.toList := zc_plain_all zz _ (by rw [← hzz]; exact hzc)
      have hzl := hzall.length
      have hzlen : zz.length = te.size := by rw [hzl]; simpa using hzs
      have hzsz : z.cells.size = te.size := hzs
      have hlitlen : ∀ (ps : List (Nat × List SV)) (rows : List (List SV)), (litRows rows ps).length = rows.length := by
        intro ps
        induction ps with
        | nil => intro rows; rfl
        | cons p ps ih => intro rows; obtain ⟨i, vs⟩ := p; simp only [litRows]; rw [ih]; simp
      -- the zero cells that the real literal begins with
      obtain ⟨zc, hzc1, hzc2, hzc3⟩ : ∃ zc : Array Value, zc = (Array.range (n * te.size)).map (fun i => (if n * te.size = 0 then #[] else z.cells)[i % (if n * te.size = 0 then #[] else z.cells).size]!) ∧ zc.size = n * te.size ∧
          All2 (RS φ) (List.replicate n zz).flatten zc.toList := by
        refine ⟨_, rfl, by simp, All2.of_nth ?_ fun j s hj => ?_⟩
        · simp [hzlen]
        · rw [nth_flatten_replicate, hzlen] at hj
          split at hj
          · rename_i hlt
            obtain ⟨v, hv, hr⟩ := hzall.nth hj
            refine ⟨v, ?_, hr⟩
            rw [Array.getElem?_toList, Array.getElem?_map, Array.getElem?_range, if_pos hlt]
            have hv' : z.cells[j % te.size]? = some v := by simpa using hv
            simp only [Option.map_some, if_neg (show ¬ n * te.size = 0 by omega), hzsz]
            rw [getElem!_def, hv']
          · cases hj
      have hpr := partsOf_ok hF _ _ hps
      obtain ⟨c', hfill, hc'⟩ := litRows_flatten te.size ps (List.replicate n zz) (fun r hr => by rw [List.eq_of_mem_replicate hr]; exact hzlen) (fun p hp => by
        have := hb2 p hp
        rw [List.length_replicate]
        exact ⟨Nat.le_of_ble_eq_true this.1, Nat.eq_of_beq_eq_true this.2⟩) φ _ zc hpr hzc3
      have hcl := hc'.length
      have hcsize : c'.size = n * E.sz b := by
        have h1 : (E.cells b).length = c'.size := by rw [hbc]; simpa using hcl
        rw [← h1, ok.cells_len, hbl, hlitlen, List.length_replicate]
      obtain ⟨L, hLb, hLbase, hLn, hLsz, hLlen, hI'⟩ := hI.newRows (b := b) (c := c') (fz := (0, 0)) (t := e) (fun j s hj => by
        rw [hbc] at hj
        obtain ⟨v, hv, hr⟩ := hc'.nth hj
        exact ⟨v, by simpa using hv, hr⟩) ⟨fun o _ => by simp, hbe.symm⟩ (Pushed.push w _ w.drawn)
      have hLlen' : L.len = n := by rw [hLlen, hbl, hlitlen, List.length_replicate]
      refine ⟨.slice (some ⟨w.heap.size, 0, none⟩) n n, _, _, _, exec_v (s := Instr.buildSlice t n (parts.map fun x => (x.1, a.eval x.2))) (by unfold execOp; rw [ho]) ?_, .inl rfl, .push _ _, hI', ?_⟩
      · unfold Instr.buildSlice
        simp only [Sem.run_bind, run_underlying' hu, Result.andThen_ok, run_sizeOf' hinf2, hsz2]
        rw [if_neg (by omega)]
        by_cases h0 : n * te.size = 0
        · rw [if_pos h0] at hzc1
          simp only [h0, if_true, Sem.run_pure, Result.andThen_ok, Sem.run_bind]
          rw [h0] at hzc1
          rw [← hzc1]
          simp only [Array.toList_map]
          rw [hfill]
          rfl
        · rw [if_neg h0] at hzc1
          simp only [h0, if_false, Sem.run_bind, run_zeroValue' hinf2 hz, Sem.run_pure, Result.andThen_ok]
          rw [← hzc1]
          simp only [Array.toList_map]
          rw [hfill]
          rfl
      · have := RS_last_slc (φ := φ) (L := L) (n := H.length) (cap := n) hI.rh.len hLbase (by omega) (by rw [hLsz, hLn, hcsize]; exact Nat.le_refl _)
        rw [hLb, hLlen'] at this
        exact this
    · rename_i hzz0
      refine ⟨_, _, h, fun φ0 H0 w0 φ a w hl2 hI hF => ?_⟩
      obtain ⟨zz, hzz⟩ : ∃ zz : List SV, zz = List.replicate te.size .top := ⟨_, rfl⟩
      have hzall : All2 (RS φ) zz z.cells.toList := by
        rw [hzz]
        refine All2.of_nth (by simpa using hzs.symm) fun j s hj => ?_
        have hj1 : j < te.size := by have := nth_lt hj; simpa using this
        have hs0 : s = .top := by
          rw [nth_eq] at hj
          obtain ⟨h1, h2⟩ := List.getElem?_eq_some_iff.1 hj
          rw [← h2]; simp
        subst hs0
        have hj2 : j < z.cells.size := by rw [show z.cells.size = te.size from hzs]; exact hj1
        refine ⟨z.cells[j], by simp [hj2], ?_⟩
        exact zc_one _ _ hzc _ (by simp)
      have hzl := hzall.length
      have hzlen : zz.length = te.size := by rw [hzl]; simpa using hzs
      have hzsz : z.cells.size = te.size := hzs
      have hlitlen : ∀ (ps : List (Nat × List SV)) (rows : List (List SV)), (litRows rows ps).length = rows.length := by
        intro ps
        induction ps with
        | nil => intro rows; rfl
        | cons p ps ih => intro rows; obtain ⟨i, vs⟩ := p; simp only [litRows]; rw [ih]; simp
      -- the zero cells that the real literal begins with
      obtain ⟨zc, hzc1, hzc2, hzc3⟩ : ∃ zc : Array Value, zc = (Array.range (n * te.size)).map (fun i => (if n * te.size = 0 then #[] else z.cells)[i % (if n * te.size = 0 then #[] else z.cells).size]!) ∧ zc.size = n * te.size ∧
          All2 (RS φ) (List.replicate n zz).flatten zc.toList := by
        refine ⟨_, rfl, by simp, All2.of_nth ?_ fun j s hj => ?_⟩
        · simp [hzlen]
        · rw [nth_flatten_replicate, hzlen] at hj
          split at hj
          · rename_i hlt
            obtain ⟨v, hv, hr⟩ := hzall.nth hj
            refine ⟨v, ?_, hr⟩
            rw [Array.getElem?_toList, Array.getElem?_map, Array.getElem?_range, if_pos hlt]
            have hv' : z.cells[j % te.size]? = some v := by simpa using hv
            simp only [Option.map_some, if_neg (show ¬ n * te.size = 0 by omega), hzsz]
            rw [getElem!_def, hv']
          · cases hj
      have hpr := partsOf_ok hF _ _ hps
      obtain ⟨c', hfill, hc'⟩ := litRows_flatten te.size ps (List.replicate n zz) (fun r hr => by rw [List.eq_of_mem_replicate hr]; exact hzlen) (fun p hp => by
        have := hb2 p hp
        rw [List.length_replicate]
        exact ⟨Nat.le_of_ble_eq_true this.1, Nat.eq_of_beq_eq_true this.2⟩) φ _ zc hpr hzc3
      have hI' := hI.newCells0 (c := c') hc' e
      rw [hzz] at hI'
      refine ⟨.slice (some ⟨w.heap.size, 0, none⟩) n n, _, _, _, exec_v (s := Instr.buildSlice t n (parts.map fun x => (x.1, a.eval x.2))) (by unfold execOp; rw [ho]) ?_, .inl rfl, .push _ _, hI', ?_⟩
      · unfold Instr.buildSlice
        simp only [Sem.run_bind, run_underlying' hu, Result.andThen_ok, run_sizeOf' hinf2, hsz2]
        rw [if_neg (by omega)]
        by_cases h0 : n * te.size = 0
        · rw [if_pos h0] at hzc1
          simp only [h0, if_true, Sem.run_pure, Result.andThen_ok, Sem.run_bind]
          rw [h0] at hzc1
          rw [← hzc1]
          simp only [Array.toList_map]
          rw [hfill]
          rfl
        · rw [if_neg h0] at hzc1
          simp only [h0, if_false, Sem.run_bind, run_zeroValue' hinf2 hz, Sem.run_pure, Result.andThen_ok]
          rw [← hzc1]
          simp only [Array.toList_map]
          rw [hfill]
          rfl
      · refine ⟨rfl, ?_⟩
        rw [← hI.rh.len, nth_last]
        exact ⟨rfl, 0, n, rfl, by omega, .inr (by simp), by simp⟩
  · cases h
end
end Go.Eng
