import Derived.Test.YtflmjaehnbnjnaaEngF
set_option linter.all false
namespace Go.Eng
open Go Go.RowKit

section
variable {E : Env} {R : Type}

theorem intK_some {x : Option AV} {K : IntKind → Int → Option R} {r : R} (h : intK x K = some r) : ∃ k n, x = some (.sc (.int k n)) ∧ K k n = some r := by
  unfold intK at h
  split at h
  · exact ⟨_, _, rfl, h⟩
  · cases h

theorem exec_v {o : Oper} {ρ : Operand → Value} {s : Sem Value} (h : execOp ρ o = (do Pure.pure (.value (← s)))) {P : Program} {w w' : World} {v : Value} (hs : s.run P w = .ok v w') : (execOp ρ o).run P w = .ok (.value v) w' := by
  rw [h]
  simp only [Sem.run_bind, hs, Result.andThen_ok, Sem.run_pure]

theorem exec_ok {o : Oper} {ρ : Operand → Value} {s : Sem Value} (h : execOp ρ o = (do Pure.pure (.value (← s)))) {P : Program} {w w' : World} {v : Value} (hs : s.run P w = .ok v w') : (execOp ρ o).run P w = .ok (.value v) w' := exec_v h hs

theorem unOp_ok {o : Oper} {F : Fr} {H : Hp E} {op : UnOp} {t : TypeId} {x : Operand} {K : AV → Hp E → Option R} {r : R} (ho : o.op = .unOp op t x) (h : (unK op (ev F x) fun v => K (.sc v) H) = some r) :
    ∃ v H', K v H' = some r ∧ RunOk E o F H v H' := by
  have hex : ∀ a : Act, execOp a.eval o = (do Pure.pure (.value (← Op.unary op (a.eval x)))) := fun a => by unfold execOp; rw [ho]
  unfold unK at h
  split at h
  · rename_i k n hx
    refine ⟨_, _, h, RunOk.pure fun φ a w hr hF => ?_⟩
    obtain ex : a.eval x = .int k n := ev_ok hx hF
    exact ⟨_, exec_v (hex a) (by rw [ex]; rfl), rfl⟩
  · rename_i k n hx
    refine ⟨_, _, h, RunOk.pure fun φ a w hr hF => ?_⟩
    obtain ex : a.eval x = .int k n := ev_ok hx hF
    exact ⟨_, exec_v (hex a) (by rw [ex]; rfl), rfl⟩
  · rename_i b hx
    refine ⟨_, _, h, RunOk.pure fun φ a w hr hF => ?_⟩
    obtain ex : a.eval x = .bool b := ev_ok hx hF
    exact ⟨_, exec_v (hex a) (by rw [ex]; rfl), rfl⟩
  · cases h

theorem rowsOf_some {H : Hp E} {id : Nat} {K : E.B → Option R} {r : R} (h : rowsOf E H id K = some r) : ∃ ro b, nth H id = some (some ⟨ro, .rows b⟩) ∧ K b = some r := by
  unfold rowsOf at h
  split at h
  · exact ⟨_, _, by assumption, h⟩
  · cases h

inductive SlcReal (φ : List PE) (id r n e : Nat) (nl : Bool) (v : Value) : Prop where
  | nil (hv : v = .slice none 0 0) (hφ : nth φ id = some .virt) (hn : n = 0) (he : e = 0) (hnl : nl = true)
  | at (L : Loc) (off cap : Nat) (hφ : nth φ id = some (.at L)) (hv : v = .slice (some ⟨L.b, off, none⟩) n cap) (hc : n + e ≤ cap) (ho : cap = 0 ∨ off = L.base + r * L.sz) (hb : off + cap * L.sz ≤ L.n) (hnl : nl = false)

theorem winK_ok (ok : EnvOk E) {H : Hp E} {id : Nat} {win : Option (Nat × Nat × Nat)} {K : E.B → Nat → Nat → Nat → Option R} {r : R} (h : winK E H id win K = some r) :
    ∃ b i n e ro, K b i n e = some r ∧ nth H id = some (some ⟨ro, .rows b⟩) ∧ ((win = none ∧ i = 0 ∧ n = E.len b ∧ e = 0) ∨ win = some (i, n, e)) ∧
      ∀ φ w nl v, RH φ H w → RS φ (.slc id win nl) v → SlcReal φ id i n e nl v := by
  unfold winK at h
  obtain ⟨ro, b, hh, h⟩ := rowsOf_some h
  cases win with
  | none =>
    refine ⟨b, 0, E.len b, 0, ro, h, hh, .inl ⟨rfl, rfl, rfl, rfl⟩, fun φ w nl v hr hs => ?_⟩
    obtain ⟨_, h2⟩ := hs
    rcases hr.some_ hh with ⟨L, hL, hb⟩ | ⟨hL, hc, _⟩ | hL <;> rw [hL] at h2
    · obtain ⟨hnl, cap, rfl, h3, h4⟩ := h2
      have hf : L.sz = E.sz b ∧ L.len = E.len b := hb.fits
      exact .at L L.base cap hL (by rw [hf.2]) (by rw [← hf.2]; simpa using h3) (.inr (by simp)) h4 hnl
    · obtain ⟨rfl, hnl, _⟩ := h2
      have hc : E.cells b = [] := hc
      obtain ⟨inf, _, _, hpos⟩ := ok.info b
      have hl := ok.cells_len b
      rw [hc] at hl
      have : E.len b = 0 := by
        rcases Nat.mul_eq_zero.1 hl.symm with h | h
        · exact h
        · omega
      exact .nil rfl hL this rfl hnl
    · exact h2.elim
  | some x =>
    obtain ⟨i, n, e⟩ := x
    refine ⟨b, i, n, e, ro, h, hh, .inr rfl, fun φ w nl v hr hs => ?_⟩
    obtain ⟨_, h2⟩ := hs
    rcases hr.some_ hh with ⟨L, hL, hb⟩ | ⟨hL, hc, _⟩ | hL <;> rw [hL] at h2
    · obtain ⟨hnl, off, cap, rfl, h3, h4, h5⟩ := h2
      exact .at L off cap hL rfl h3 h4 h5 hnl
    · obtain ⟨rfl, hnl, hw⟩ := h2
      exact .nil rfl hL hw.1 hw.2 hnl
    · exact h2.elim

theorem fieldAddr_ok (ok : EnvOk E) {o : Oper} {F : Fr} {H : Hp E} {t : TypeId} {x : Operand} {f : Nat} {fs : List FI} {ti : TI} {id row fld : Nat} {fi : FI} (ho : o.op = .fieldAddr t x f)
    (hti : E.ty t = some ti) (hsh : ti.shp = .struct fs) (hx : ev F x = some (.sc (.ptr id row fld))) (hf : nth fs f = some fi) (hz : Nat.beq fi.size 0 = false) (hal : ∃ he, nth H id = some (some he)) :
    RunOk E o F H (.sc (.ptr id row (fld + fi.off))) H := RunOk.pure fun φ a w hr hF => by
  obtain ⟨inf, d, hi, hu, hsz, hby, hag, hshp, _⟩ := (ty_ok ok hti).ok
  rw [hsh] at hshp
  obtain ⟨gs, rfl, hgs, hall⟩ := hshp
  obtain ⟨g, inf2, dg, hg, hoff, hinf2, hsz2, hug, hag2⟩ := hall f fi hf
  obtain ⟨he, hh⟩ := hal
  have hv : RP φ id row fld (a.eval x) := ev_ok hx hF
  obtain ⟨L, hL, hb, hp⟩ := hv.loc hr hh
  have hz : fi.size ≠ 0 := fun e => by rw [e] at hz; cases hz
  refine ⟨.pointer (some ⟨L.b, L.base + row * L.sz + (fld + fi.off), none⟩), exec_v (s := Instr.fieldAt t (a.eval x) f) (by unfold execOp; rw [ho]) ?_, rfl, ?_⟩
  · unfold Instr.fieldAt
    simp only [Sem.run_bind, run_underlying' hu, Result.andThen_ok, hg]
    rw [hp]
    simp only [Instr.sureAddr, Sem.run_bind, Sem.run_pure, Result.andThen_ok, fieldPlace]
    rw [run_sizeOf' hinf2]
    simp only [Result.andThen_ok]
    rw [hsz2, if_neg hz]
    simp only [Sem.run_pure, Result.andThen_ok, addr_add, hoff, Nat.add_assoc]
  · rw [hL]

theorem field_ok (ok : EnvOk E) {o : Oper} {F : Fr} {H : Hp E} {t : TypeId} {x : Operand} {f : Nat} {fs : List FI} {ti : TI} {l : List SV} {fi : FI} {K : AV → Hp E → Option R} {r : R} (ho : o.op = .field t x f)
    (hti : E.ty t = some ti) (hsh : ti.shp = .struct fs) (hx : ev F x = some (.agg l)) (hf : nth fs f = some fi)
    (h : (cond fi.agg (cond (Nat.ble (fi.off + fi.size) l.length) (K (.agg (seg l fi.off fi.size)) H) none) (oK (nth l fi.off) fun v => K (.sc v) H)) = some r) : ∃ v H', K v H' = some r ∧ RunOk E o F H v H' := by
  obtain ⟨inf, d, hi, hu, hsz, hby, hag, hshp, _⟩ := (ty_ok ok hti).ok
  rw [hsh] at hshp
  obtain ⟨gs, rfl, hgs, hall⟩ := hshp
  obtain ⟨g, inf2, dg, hg, hoff, hinf2, hsz2, hug, hag2⟩ := hall f fi hf
  have hrun : ∀ (φ : List PE) (a : Act) (w : World) (cs : List Value), a.eval x = .agg cs.toArray → (Instr.field t (a.eval x) f).run E.P w = (part g.type cs.toArray g.offset).run E.P w := fun φ a w cs e => by
    unfold Instr.field
    simp only [Sem.run_bind, run_underlying' hu, Result.andThen_ok, hg, e, asAgg, Sem.run_pure]
  have hex : ∀ a : Act, execOp a.eval o = (do Pure.pure (.value (← Instr.field t (a.eval x) f))) := fun a => by unfold execOp; rw [ho]
  rcases cond_some h with ⟨ha, h⟩ | ⟨ha, h⟩
  · obtain ⟨hle, hK⟩ := cond_none_right h
    have hle : fi.off + fi.size ≤ l.length := Nat.le_of_ble_eq_true hle
    refine ⟨_, _, hK, RunOk.pure fun φ a w hr hF => ?_⟩
    obtain ⟨cs, ex, hcs⟩ := ev_ok hx hF
    refine ⟨.agg (cs.toArray.extract fi.off (fi.off + fi.size)), exec_v (hex a) ?_, (cs.toArray.extract fi.off (fi.off + fi.size)).toList, by rw [Array.toArray_toList], ?_⟩
    · rw [hrun φ a w cs ex]
      unfold part
      simp only [Sem.run_bind, run_isAgg' hug, hag2, ha, Result.andThen_ok, if_true, run_sizeOf' hinf2, hsz2, hoff, Sem.run_pure]
    · have hl := hcs.length
      have := extract_all2 (φ := φ) (l := seg l fi.off fi.size) (c := cs.toArray) (o := fi.off) (by rw [seg_length _ _ _ hle]; simp; omega) (fun j s hs => by
        rw [nth_seg] at hs
        split at hs
        · obtain ⟨v, hv, hr⟩ := hcs.nth hs
          exact ⟨v, by simpa using hv, hr⟩
        · cases hs)
      rwa [seg_length _ _ _ hle] at this
  · obtain ⟨s, hs, hK⟩ := oK_some h
    refine ⟨_, _, hK, RunOk.pure fun φ a w hr hF => ?_⟩
    obtain ⟨cs, ex, hcs⟩ := ev_ok hx hF
    obtain ⟨v, hv, hr⟩ := hcs.nth hs
    refine ⟨v, exec_v (hex a) ?_, hr⟩
    rw [hrun φ a w cs ex]
    unfold part
    simp only [Sem.run_bind, run_isAgg' hug, hag2, ha, Result.andThen_ok, Bool.false_eq_true, if_false]
    rw [hoff]
    have : cs.toArray[fi.off]? = some v := by simpa using hv
    rw [this]; rfl

theorem expWin_some {H : Hp E} {id : Nat} {w : Option (Nat × Nat × Nat)} {k : Nat} (h : expWin E H id w = some k) : ∃ ro ty l e, nth H id = some (some ⟨ro, .exp ty l⟩) ∧ w = some (0, k, e) := by
  unfold expWin at h
  split at h
  · rename_i ro ty l k' e' h1
    cases h
    exact ⟨_, _, _, _, h1, rfl⟩
  · cases h

theorem pickIx_some {R : Type} {n : Int} {K : Nat → Option R} {r : R} : ∀ (k i : Nat), pickIx k i n K = some r → ∃ j, j < i + k ∧ n = (j : Int) ∧ K j = some r
  | 0, _, h => by cases h
  | k + 1, i, h => by
    unfold pickIx at h
    cases hd : decide (n = (i : Int)) with
    | true => rw [hd] at h; exact ⟨i, by omega, of_decide_eq_true hd, h⟩
    | false =>
      rw [hd] at h
      obtain ⟨j, h1, h2, h3⟩ := pickIx_some k (i + 1) h
      exact ⟨j, by omega, h2, h3⟩

theorem indexAddr_ok (ok : EnvOk E) {o : Oper} {F : Fr} {H : Hp E} {t : TypeId} {x i : Operand} {K : AV → Hp E → Option R} {r : R} (ho : o.op = .indexAddr t x i)
    (h : (oK (E.ty t) fun ti => intK (ev F i) fun _ n => match ti.shp, ev F x with
      | .slice e, some (.sc (.slc id w _)) => oK (E.ty e) fun te => match expWin E H id w with
        | some k => pickIx k 0 n fun i => K (.sc (.ptr id 0 (i * te.size))) H
        | none => winK E H id w fun b r k _ => cond (Nat.beq te.size (E.sz b) && (decide (0 ≤ n) && decide (n < k))) (K (.sc (.ptr id (n.toNat + r) 0)) H) none
      | .array k e, some (.sc (.ptr id row fld)) => aliveK E H id (oK (E.ty e) fun te => cond (decide (0 ≤ n) && decide (n < k)) (K (.sc (.ptr id row (fld + n.toNat * te.size))) H) none)
      | _, _ => none) = some r) : ∃ v H', K v H' = some r ∧ RunOk E o F H v H' := by
  obtain ⟨ti, hti, h⟩ := oK_some h
  obtain ⟨k, n, hi, h⟩ := intK_some h
  obtain ⟨inf, d, hinf, hu, hsz, hby, hag, hshp, _⟩ := (ty_ok ok hti).ok
  have hex : ∀ a : Act, execOp a.eval o = (do Pure.pure (.value (← Instr.indexAt t (a.eval x) (a.eval i)))) := fun a => by unfold execOp; rw [ho]
  split at h
  · rename_i e id win nl hsh hx
    rw [hsh] at hshp
    have hd : d = .slice e := hshp
    subst hd
    obtain ⟨te, hte, h⟩ := oK_some h
    obtain ⟨inf2, d2, hinf2, hu2, hsz2, _⟩ := (ty_ok ok hte).ok
    split at h
    · rename_i kk hew
      obtain ⟨ro, ty0, l0, e0, hh, hw0⟩ := expWin_some hew
      obtain ⟨j, hj0, hj, hK⟩ := pickIx_some _ _ h
      subst hj
      subst hw0
      refine ⟨_, _, hK, RunOk.pure fun φ a w hr hF => ?_⟩
      obtain ei : a.eval i = .int k (j : Int) := ev_ok hi hF
      have hs : RS φ (.slc id (some (0, kk, e0)) nl) (a.eval x) := ev_ok hx hF
      obtain ⟨_, hs2⟩ := hs
      rcases hr.some_ hh with ⟨L, hL, hb⟩ | ⟨hL, _, b', hb'⟩ | hL <;> rw [hL] at hs2
      · obtain ⟨_, off, cap, hv, h3, h4, _⟩ := hs2
        have hoff : off = L.base := by
          rcases h4 with h4 | h4
          · omega
          · rw [h4]; simp
        refine ⟨.pointer (some ⟨L.b, L.base + 0 * L.sz + j * te.size, none⟩), exec_v (hex a) ?_, rfl, ?_⟩
        · rw [hv, ei]
          unfold Instr.indexAt
          simp only [asIntOf, Sem.run_bind, Sem.run_pure, Result.andThen_ok, run_underlying' hu]
          simp only [Bool.and_false, Bool.false_eq_true, if_false]
          rw [if_pos ⟨by omega, by omega⟩]
          simp only [Sem.run_bind, run_sizeOf' hinf2, Result.andThen_ok, Sem.run_pure, addr_add, hsz2, hoff, Int.toNat_natCast, Nat.zero_mul, Nat.add_zero]
        · rw [hL]
      · cases hb'
      · exact hs2.elim
    obtain ⟨b, row, len, ex, ro, h, hh, _, hq⟩ := winK_ok ok h
    obtain ⟨hb, hK⟩ := cond_none_right h
    simp only [Bool.and_eq_true, decide_eq_true_eq] at hb
    obtain ⟨hsize, hn0, hn1⟩ := hb
    have hsize : te.size = E.sz b := Nat.eq_of_beq_eq_true hsize
    refine ⟨_, _, hK, RunOk.pure fun φ a w hr hF => ?_⟩
    obtain ei : a.eval i = .int k n := ev_ok hi hF
    have hs : RS φ (.slc id win nl) (a.eval x) := ev_ok hx hF
    have hsr := hq φ w nl (a.eval x) hr hs
    cases hsr with
    | nil hv hφ hn _ _ => omega
    | «at» L off cap hφ hv hc ho2 hb2 hnl =>
      have hoff : off = L.base + row * L.sz := by
        rcases ho2 with h0 | h0
        · omega
        · exact h0
      have hLsz : L.sz = E.sz b := by
        rcases hr.some_ hh with ⟨L', hL', hb'⟩ | ⟨hL', _⟩ | hL'
        · rw [hφ] at hL'; cases hL'; exact (hb'.fits : _ ∧ _).1
        · rw [hφ] at hL'; cases hL'
        · rw [hφ] at hL'; cases hL'
      refine ⟨.pointer (some ⟨L.b, off + n.toNat * L.sz, none⟩), exec_v (hex a) ?_, rfl, ?_⟩
      · rw [hv, ei]
        unfold Instr.indexAt
        simp only [asIntOf, Sem.run_bind, Sem.run_pure, Result.andThen_ok, run_underlying' hu]
        simp only [Bool.and_false, Bool.false_eq_true, if_false]
        rw [if_pos ⟨hn0, hn1⟩]
        simp only [Sem.run_bind, run_sizeOf' hinf2, Result.andThen_ok, Sem.run_pure, addr_add, hsz2, hsize, hLsz]
      · rw [hφ]
        show Value.pointer _ = Value.pointer _
        rw [hoff]
        congr 3
        rw [Nat.add_mul]; omega
  · rename_i kk e id row fld hsh hx
    rw [hsh] at hshp
    have hd : d = .array kk e := hshp
    subst hd
    obtain ⟨⟨he, hh⟩, h⟩ := aliveK_some h
    obtain ⟨te, hte, h⟩ := oK_some h
    obtain ⟨inf2, d2, hinf2, hu2, hsz2, _⟩ := (ty_ok ok hte).ok
    obtain ⟨hb, hK⟩ := cond_none_right h
    simp only [Bool.and_eq_true, decide_eq_true_eq] at hb
    obtain ⟨hn0, hn1⟩ := hb
    refine ⟨_, _, hK, RunOk.pure fun φ a w hr hF => ?_⟩
    obtain ei : a.eval i = .int k n := ev_ok hi hF
    have hs : RP φ id row fld (a.eval x) := ev_ok hx hF
    obtain ⟨L, hL, hb, hp⟩ := hs.loc hr hh
    refine ⟨.pointer (some ⟨L.b, L.base + row * L.sz + (fld + n.toNat * te.size), none⟩), exec_v (hex a) ?_, rfl, ?_⟩
    · rw [hp, ei]
      unfold Instr.indexAt
      simp only [asIntOf, Sem.run_bind, Sem.run_pure, Result.andThen_ok, run_underlying' hu, Instr.sureAddr]
      rw [if_pos ⟨hn0, hn1⟩]
      simp only [Sem.run_bind, run_sizeOf' hinf2, Result.andThen_ok, Sem.run_pure, addr_add, hsz2, Nat.add_assoc]
    · rw [hL]
  · cases h
end
end Go.Eng
