import Derived.Test.YtflmjaehnbnjnaaEngG
import Derived.Deep.AppendSrc
set_option linter.all false
namespace Go.Eng
open Go Go.RowKit

section
variable {E : Env} {R : Type}

theorem bt_eq {s : ByteArray} {i : Nat} (h : i < s.size) : s[i]? = some (s.data.toList.getD i 0) ∧ bt s i = ((s.data.toList.getD i 0).toNat : Int) := by
  refine ⟨?_, rfl⟩
  rw [getElem?_pos s i h]
  have h' : i < s.data.toList.length := by rw [Array.length_toList]; exact h
  rw [List.getD_eq_getElem?_getD, List.getElem?_eq_getElem h']
  rfl

theorem index_ok (ok : EnvOk E) {o : Oper} {F : Fr} {H : Hp E} {t : TypeId} {x i : Operand} {K : AV → Hp E → Option R} {r : R} (ho : o.op = .index t x i)
    (h : (oK (E.ty t) fun ti => intK (ev F i) fun _ n => match ti.shp, ev F x with
      | .str, some (.sc (.str s)) => cond (decide (0 ≤ n) && decide (n < s.size)) (K (.sc (.int .u8 (bt s n.toNat))) H) none
      | _, _ => none) = some r) : ∃ v H', K v H' = some r ∧ RunOk E o F H v H' := by
  obtain ⟨ti, hti, h⟩ := oK_some h
  obtain ⟨k, n, hi, h⟩ := intK_some h
  obtain ⟨inf, d, hinf, hu, hsz, hby, hag, hshp, _⟩ := (ty_ok ok hti).ok
  have hex : ∀ a : Act, execOp a.eval o = (do Pure.pure (.value (← Instr.index t (a.eval x) (a.eval i)))) := fun a => by unfold execOp; rw [ho]
  split at h
  · rename_i s hsh hx
    rw [hsh] at hshp
    have hd : d = .string := hshp
    subst hd
    obtain ⟨hb, hK⟩ := cond_none_right h
    simp only [Bool.and_eq_true, decide_eq_true_eq] at hb
    refine ⟨_, _, hK, RunOk.pure fun φ a w hr hF => ?_⟩
    obtain ei : a.eval i = .int k n := ev_ok hi hF
    obtain ex : a.eval x = .string s := ev_ok hx hF
    obtain ⟨h1, h2⟩ := bt_eq (s := s) (i := n.toNat) (by omega)
    refine ⟨_, exec_v (hex a) ?_, rfl⟩
    rw [ei, ex]
    unfold Instr.index
    simp only [asIntOf, Sem.run_bind, Sem.run_pure, Result.andThen_ok, run_underlying' hu]
    rw [if_pos hb.1, h1]
    rw [h2]; rfl
  · cases h

theorem extract_ok {o : Oper} {F : Fr} {H : Hp E} {x : Operand} {i : Nat} {l : List (Bool × List SV)} {y : Bool × List SV} (ho : o.op = .extract x i) (hx : ev F x = some (.tup l)) (hy : nth l i = some y) :
    (y.1 = true → RunOk E o F H (.agg y.2) H) ∧ (∀ v, y = (false, [v]) → RunOk E o F H (.sc v) H) := by
  have hex : ∀ a : Act, execOp a.eval o = (do Pure.pure (.value (← Instr.extract (a.eval x) i))) := fun a => by unfold execOp; rw [ho]
  refine ⟨fun hb => RunOk.pure fun φ a w hr hF => ?_, fun v hb => RunOk.pure fun φ a w hr hF => ?_⟩
  · obtain ⟨cs, ex, hcs⟩ := ev_ok hx hF
    obtain ⟨u, hu, hr⟩ := hcs.nth hy
    refine ⟨u, exec_v (hex a) ?_, ?_⟩
    · rw [ex]
      have : cs.toArray[i]? = some u := by simpa using hu
      simp only [Instr.extract, this]
      rfl
    · obtain ⟨b, l⟩ := y
      have hb : b = true := hb
      subst hb
      exact hr
  · obtain ⟨cs, ex, hcs⟩ := ev_ok hx hF
    obtain ⟨u, hu, hr⟩ := hcs.nth hy
    refine ⟨u, exec_v (hex a) ?_, ?_⟩
    · rw [ex]
      have : cs.toArray[i]? = some u := by simpa using hu
      simp only [Instr.extract, this]
      rfl
    · subst hb
      obtain ⟨s, hs, hr⟩ := hr
      cases hs
      exact hr

theorem evs_ok {F : Fr} {φ : List PE} {a : Act} (hF : RF φ F a.tmps) : ∀ (xs : List Operand) (l : List AV), evs F xs = some l → All2 (RA φ) l (xs.map a.eval) := by
  intro xs
  induction xs with
  | nil => intro l h; cases h; trivial
  | cons x xs ih =>
    intro l h
    unfold evs at h
    split at h
    · rename_i v r hv hr
      cases h
      exact ⟨ev_ok hv hF, ih r hr⟩
    · cases h

theorem ptrsOf_ok {φ : List PE} : ∀ (l : List AV) (c : List (Nat × Nat × Nat)) (vs : List Value), ptrsOf l = some c → All2 (RA φ) l vs → All2 (fun c v => RP φ c.1 c.2.1 c.2.2 v) c vs := by
  intro l
  induction l with
  | nil => intro c vs h hv; cases h; cases vs <;> first | trivial | exact hv.elim
  | cons x l ih =>
    intro c vs h hv
    unfold ptrsOf at h
    split at h
    · rename_i heq; cases heq
    · rename_i i j k l' heq
      cases heq
      obtain ⟨c', hc', rfl⟩ := Option.map_eq_some_iff.1 h
      cases vs with
      | nil => exact hv.elim
      | cons v vs => exact ⟨hv.1, ih c' vs hc' hv.2⟩
    · cases h

theorem makeFunc_ok {o : Oper} {F : Fr} {H : Hp E} {f : FuncId} {first caps : Array Operand} {l : List AV} {c : List (Nat × Nat × Nat)} (ho : o.op = .makeFunc (.func f) first caps) (hf : first.isEmpty = true)
    (hl : evs F caps.toList = some l) (hc : ptrsOf l = some c) : RunOk E o F H (.sc (.fn f c)) H := RunOk.pure fun φ a w hr hF => by
  have hfe : first = #[] := by simpa using hf
  subst hfe
  refine ⟨.func (.func f) #[] (caps.map a.eval), ?_, (caps.toList.map a.eval), ?_, ptrsOf_ok l c _ hc (evs_ok hF _ _ hl)⟩
  · refine exec_v (s := Instr.makeFunc (.func f) ((#[] : Array Operand).map a.eval) (caps.map a.eval)) (by unfold execOp; rw [ho]) ?_
    simp [Instr.makeFunc]
  · congr 1
    apply Array.ext'
    simp

def ROpt (lo : Option Int) (v : Option Value) : Prop :=
  match lo, v with
  | none, none => True
  | some n, some v => ∃ k, v = .int k n
  | _, _ => False

theorem optInt_ok {F : Fr} {x : Option Operand} {lo : Option Int} (h : optInt F x = some lo) {φ : List PE} {a : Act} (hF : RF φ F a.tmps) : ROpt lo (x.map a.eval) := by
  unfold optInt at h
  split at h
  · cases h; trivial
  · split at h
    · rename_i hx
      cases h
      exact ⟨_, ev_ok hx hF⟩
    · cases h

theorem sliceBounds_ok {P : Program} {isS : Bool} {len cap : Nat} {low high : Option Value} {lo hi : Option Int} (hlo : ROpt lo low) (hhi : ROpt hi high) (h0 : 0 ≤ lo.getD 0) (h1 : lo.getD 0 ≤ hi.getD len)
    (h2 : hi.getD len ≤ cap) (w : World) : (Instr.sliceBounds isS len cap low high none).run P w = .ok ((lo.getD 0).toNat, (hi.getD len).toNat, cap) w := by
  unfold Instr.sliceBounds
  cases lo <;> cases low <;> (first | exact hlo.elim | skip) <;> cases hi <;> cases high <;> (first | exact hhi.elim | skip)
  · simp
  · obtain ⟨k2, rfl⟩ := hhi
    simp only [Option.getD_none, Option.getD_some] at h0 h1 h2 ⊢
    simp [run_sliceBound (P := P) (w := w) k2 _ cap _ (by omega) h2]
  · obtain ⟨k1, rfl⟩ := hlo
    simp only [Option.getD_none, Option.getD_some] at h0 h1 h2 ⊢
    simp [run_sliceBound (P := P) (w := w) k1 _ len _ h0 h1]
  · obtain ⟨k1, rfl⟩ := hlo
    obtain ⟨k2, rfl⟩ := hhi
    simp only [Option.getD_some] at h0 h1 h2 ⊢
    simp [run_sliceBound (P := P) (w := w) k2 _ cap _ (by omega) h2]
    rw [run_sliceBound (P := P) (w := w) k1 _ _ _ h0 (by omega)]
    rfl

theorem slice_ok (ok : EnvOk E) {o : Oper} {F : Fr} {H : Hp E} {t : TypeId} {x : Operand} {lo hi : Option Operand} {K : AV → Hp E → Option R} {r : R} (ho : o.op = .slice t x lo hi none)
    (h : (oK (E.ty t) fun ti => match (none : Option Operand), optInt F lo, optInt F hi with
      | none, some lo, some hi => match ti.shp, ev F x with
        | .str, some (.sc (.str s)) => strSlice s lo hi fun s => K (.sc (.str s)) H
        | .slice e, some (.sc (.slc id w nl)) => oK (E.ty e) fun te => winK E H id w fun b r n e =>
            cond (Nat.beq te.size (E.sz b) && (decide (0 ≤ lo.getD 0) && decide (lo.getD 0 ≤ hi.getD n) && decide (hi.getD n ≤ (n + e : Nat))))
              (K (.sc (.slc id (some ((lo.getD 0).toNat + r, (hi.getD n).toNat - (lo.getD 0).toNat, n + e - (hi.getD n).toNat)) nl)) H) none
        | _, _ => none
      | some mx, some lo, some hi => match ti.shp, ev F x, ev F mx with
        | .slice e, some (.sc (.slc id w nl)), some (.sc (.int _ m)) => cond hi.isSome (oK (E.ty e) fun te => winK E H id w fun b r n e =>
            cond (Nat.beq te.size (E.sz b) && (decide (0 ≤ lo.getD 0) && decide (lo.getD 0 ≤ hi.getD n) && decide (hi.getD n ≤ m) && decide (m ≤ (n + e : Nat))))
              (K (.sc (.slc id (some ((lo.getD 0).toNat + r, (hi.getD n).toNat - (lo.getD 0).toNat, m.toNat - (hi.getD n).toNat)) nl)) H) none) none
        | _, _, _ => none
      | _, _, _ => none) = some r) : ∃ v H', K v H' = some r ∧ RunOk E o F H v H' := by
  obtain ⟨ti, hti, h⟩ := oK_some h
  obtain ⟨inf, d, hinf, hu, hsz, hby, hag, hshp, _⟩ := (ty_ok ok hti).ok
  have hex : ∀ a : Act, execOp a.eval o = (do Pure.pure (.value (← Instr.sliceAt t (a.eval x) (lo.map a.eval) (hi.map a.eval) none))) := fun a => by unfold execOp; rw [ho]; rfl
  split at h
  case h_2 e _ _ => cases e
  case h_3 => cases h
  rename_i l hh _ hlo hhi
  split at h
  · rename_i s hsh hx
    rw [hsh] at hshp
    have hd : d = .string := hshp
    subst hd
    unfold strSlice at h
    obtain ⟨hb, hK⟩ := cond_none_right h
    simp only [Bool.and_eq_true, decide_eq_true_eq] at hb
    refine ⟨_, _, hK, RunOk.pure fun φ a w hr hF => ?_⟩
    obtain ex : a.eval x = .string s := ev_ok hx hF
    refine ⟨_, exec_v (hex a) ?_, rfl⟩
    unfold Instr.sliceAt Instr.slice
    simp only [Sem.run_bind, run_underlying' hu, Result.andThen_ok, ex]
    simp only [Option.isSome_none, Bool.false_eq_true, if_false, Sem.run_bind, Sem.run_pure, Result.andThen_ok]
    rw [sliceBounds_ok (optInt_ok hlo hF) (optInt_ok hhi hF) hb.1.1 hb.1.2 hb.2]
    rfl
  · rename_i e id win nl hsh hx
    rw [hsh] at hshp
    have hd : d = .slice e := hshp
    subst hd
    obtain ⟨te, hte, h⟩ := oK_some h
    obtain ⟨inf2, d2, hinf2, hu2, hsz2, _⟩ := (ty_ok ok hte).ok
    obtain ⟨b, row, n, ex, ro, h, hhb, _, hq⟩ := winK_ok ok h
    obtain ⟨hb, hK⟩ := cond_none_right h
    simp only [Bool.and_eq_true, decide_eq_true_eq] at hb
    obtain ⟨hsize, ⟨hb1, hb2⟩, hb3⟩ := hb
    have hsize : te.size = E.sz b := Nat.eq_of_beq_eq_true hsize
    refine ⟨_, _, hK, RunOk.pure fun φ a w hr hF => ?_⟩
    have hs : RS φ (.slc id win nl) (a.eval x) := ev_ok hx hF
    have hgo : ∀ (base : Option Addr) (cap : Nat), a.eval x = .slice base n cap → n + ex ≤ cap →
        (Instr.sliceAt t (a.eval x) (lo.map a.eval) (hi.map a.eval) none).run E.P w = .ok (.slice (if cap = (l.getD 0).toNat then base else base.map (·.add ((l.getD 0).toNat * te.size))) ((hh.getD n).toNat - (l.getD 0).toNat) (cap - (l.getD 0).toNat)) w := fun base cap e2 hle => by
      unfold Instr.sliceAt Instr.slice
      simp only [Sem.run_bind, run_underlying' hu, Result.andThen_ok, e2]
      rw [sliceBounds_ok (optInt_ok hlo hF) (optInt_ok hhi hF) hb1 hb2 (by omega)]
      simp only [Result.andThen_ok, Sem.run_bind, run_sizeOf' hinf2, Sem.run_pure, hsz2]
    have hsr := hq φ w nl (a.eval x) hr hs
    cases hsr with
    | nil hv hφ hn he hnl =>
      have hl0 : (l.getD 0).toNat = 0 := by omega
      refine ⟨_, exec_v (hex a) (hgo none 0 (by rw [hv, hn]) (by omega)), ?_⟩
      rw [hl0]
      refine ⟨rfl, ?_⟩
      rw [hφ]
      refine ⟨?_, hnl, ?_, ?_⟩
      · simp; omega
      · omega
      · omega
    | «at» L off cap hφ hv hc ho2 hb4 hnl =>
      have hLsz : L.sz = E.sz b := by
        rcases hr.some_ hhb with ⟨L', hL', hb'⟩ | ⟨hL', _⟩ | hL'
        · rw [hφ] at hL'; cases hL'; exact (hb'.fits : _ ∧ _).1
        · rw [hφ] at hL'; cases hL'
        · rw [hφ] at hL'; cases hL'
      refine ⟨_, exec_v (hex a) (hgo (some ⟨L.b, off, none⟩) cap hv hc), ?_⟩
      refine ⟨by split <;> rfl, ?_⟩
      rw [hφ]
      refine ⟨hnl, ?_⟩
      by_cases hcl : cap = (l.getD 0).toNat
      · refine ⟨off, cap - (l.getD 0).toNat, by rw [if_pos hcl], by omega, .inl (by omega), ?_⟩
        rw [show cap - (l.getD 0).toNat = 0 from by omega]
        have : off ≤ off + cap * L.sz := Nat.le_add_right _ _
        omega
      · have hoff : off = L.base + row * L.sz := by
          rcases ho2 with h0 | h0
          · omega
          · exact h0
        refine ⟨off + (l.getD 0).toNat * L.sz, cap - (l.getD 0).toNat, ?_, by omega, .inr ?_, ?_⟩
        · rw [if_neg hcl]
          simp only [Option.map_some, addr_add, hsize, hLsz]
        · rw [hoff, Nat.add_mul]; omega
        · have : (l.getD 0).toNat ≤ cap := by omega
          have h5 : cap * L.sz = (l.getD 0).toNat * L.sz + (cap - (l.getD 0).toNat) * L.sz := by rw [← Nat.add_mul]; congr 1; omega
          omega
  · cases h

theorem sliceBounds3_ok {P : Program} {len cap : Nat} {low high mx : Option Value} {lo hi : Option Int} {m : Int} (hlo : ROpt lo low) (hhi : ROpt hi high) (hmx : ROpt (some m) mx) (hhs : hi.isSome = true) (h0 : 0 ≤ lo.getD 0) (h1 : lo.getD 0 ≤ hi.getD len)
    (h2 : hi.getD len ≤ m) (h3 : m ≤ cap) (w : World) : (Instr.sliceBounds true len cap low high mx).run P w = .ok ((lo.getD 0).toNat, (hi.getD len).toNat, m.toNat) w := by
  unfold Instr.sliceBounds
  cases mx with
  | none => exact hmx.elim
  | some mv =>
    obtain ⟨k3, rfl⟩ := hmx
    cases hi with
    | none => cases hhs
    | some hv =>
      cases high with
      | none => exact hhi.elim
      | some hh =>
        obtain ⟨k2, rfl⟩ := hhi
        simp only [Option.getD_some] at h1 h2 ⊢
        cases lo with
        | none =>
          cases low with
          | some _ => exact hlo.elim
          | none =>
            simp only [Option.getD_none] at h0 h1 ⊢
            simp only [Sem.run_bind, Sem.run_pure]
            rw [run_sliceBound (P := P) (w := w) k3 _ cap _ (by omega) h3]
            simp only [Result.andThen_ok]
            rw [run_sliceBound (P := P) (w := w) k2 _ m.toNat _ (by omega) (by omega)]
            rfl
        | some lv =>
          cases low with
          | none => exact hlo.elim
          | some _ =>
            obtain ⟨k1, rfl⟩ := hlo
            simp only [Option.getD_some] at h0 h1 ⊢
            simp only [Sem.run_bind, Sem.run_pure]
            rw [run_sliceBound (P := P) (w := w) k3 _ cap _ (by omega) h3]
            simp only [Result.andThen_ok]
            rw [run_sliceBound (P := P) (w := w) k2 _ m.toNat _ (by omega) (by omega)]
            simp only [Result.andThen_ok]
            rw [run_sliceBound (P := P) (w := w) k1 _ hv.toNat _ h0 (by omega)]
            rfl

theorem slice3_ok (ok : EnvOk E) {o : Oper} {F : Fr} {H : Hp E} {t : TypeId} {x mx : Operand} {lo hi : Option Operand} {K : AV → Hp E → Option R} {r : R} (ho : o.op = .slice t x lo hi (some mx))
    (h : (oK (E.ty t) fun ti => match (some mx : Option Operand), optInt F lo, optInt F hi with
      | none, some lo, some hi => match ti.shp, ev F x with
        | .str, some (.sc (.str s)) => strSlice s lo hi fun s => K (.sc (.str s)) H
        | .slice e, some (.sc (.slc id w nl)) => oK (E.ty e) fun te => winK E H id w fun b r n e =>
            cond (Nat.beq te.size (E.sz b) && (decide (0 ≤ lo.getD 0) && decide (lo.getD 0 ≤ hi.getD n) && decide (hi.getD n ≤ (n + e : Nat))))
              (K (.sc (.slc id (some ((lo.getD 0).toNat + r, (hi.getD n).toNat - (lo.getD 0).toNat, n + e - (hi.getD n).toNat)) nl)) H) none
        | _, _ => none
      | some mx, some lo, some hi => match ti.shp, ev F x, ev F mx with
        | .slice e, some (.sc (.slc id w nl)), some (.sc (.int _ m)) => cond hi.isSome (oK (E.ty e) fun te => winK E H id w fun b r n e =>
            cond (Nat.beq te.size (E.sz b) && (decide (0 ≤ lo.getD 0) && decide (lo.getD 0 ≤ hi.getD n) && decide (hi.getD n ≤ m) && decide (m ≤ (n + e : Nat))))
              (K (.sc (.slc id (some ((lo.getD 0).toNat + r, (hi.getD n).toNat - (lo.getD 0).toNat, m.toNat - (hi.getD n).toNat)) nl)) H) none) none
        | _, _, _ => none
      | _, _, _ => none) = some r) : ∃ v H', K v H' = some r ∧ RunOk E o F H v H' := by
  obtain ⟨ti, hti, h⟩ := oK_some h
  obtain ⟨inf, d, hinf, hu, hsz, hby, hag, hshp, _⟩ := (ty_ok ok hti).ok
  have hex : ∀ a : Act, execOp a.eval o = (do Pure.pure (.value (← Instr.sliceAt t (a.eval x) (lo.map a.eval) (hi.map a.eval) (some (a.eval mx))))) := fun a => by unfold execOp; rw [ho]; rfl
  split at h
  case h_1 e _ _ => cases e
  case h_3 => cases h
  rename_i mx' l hh hmxe hlo hhi
  cases hmxe
  split at h
  case h_2 => cases h
  rename_i e id win nl k m hsh hx hmx
  rw [hsh] at hshp
  have hd : d = .slice e := hshp
  subst hd
  obtain ⟨hhs, h⟩ := cond_none_right h
  obtain ⟨te, hte, h⟩ := oK_some h
  obtain ⟨inf2, d2, hinf2, hu2, hsz2, _⟩ := (ty_ok ok hte).ok
  obtain ⟨b, row, n, ex, ro, h, hhb, _, hq⟩ := winK_ok ok h
  obtain ⟨hb, hK⟩ := cond_none_right h
  simp only [Bool.and_eq_true, decide_eq_true_eq] at hb
  obtain ⟨hsize, ⟨⟨hb1, hb2⟩, hb3⟩, hb4⟩ := hb
  have hsize : te.size = E.sz b := Nat.eq_of_beq_eq_true hsize
  refine ⟨_, _, hK, RunOk.pure fun φ a w hr hF => ?_⟩
  have hs : RS φ (.slc id win nl) (a.eval x) := ev_ok hx hF
  have hmv : ROpt (some m) (some (a.eval mx)) := ⟨k, ev_ok hmx hF⟩
  have hgo : ∀ (base : Option Addr) (cap : Nat), a.eval x = .slice base n cap → n + ex ≤ cap →
      (Instr.sliceAt t (a.eval x) (lo.map a.eval) (hi.map a.eval) (some (a.eval mx))).run E.P w = .ok (.slice (if m.toNat = (l.getD 0).toNat then base else base.map (·.add ((l.getD 0).toNat * te.size))) ((hh.getD n).toNat - (l.getD 0).toNat) (m.toNat - (l.getD 0).toNat)) w := fun base cap e2 hle => by
    unfold Instr.sliceAt Instr.slice
    simp only [Sem.run_bind, run_underlying' hu, Result.andThen_ok, e2]
    rw [sliceBounds3_ok (optInt_ok hlo hF) (optInt_ok hhi hF) hmv hhs hb1 hb2 hb3 (by omega)]
    simp only [Result.andThen_ok, Sem.run_bind, run_sizeOf' hinf2, Sem.run_pure, hsz2]
  have hsr := hq φ w nl (a.eval x) hr hs
  cases hsr with
  | nil hv hφ hn he hnl =>
    have hl0 : (l.getD 0).toNat = 0 := by omega
    have hm0 : m.toNat = 0 := by omega
    refine ⟨_, exec_v (hex a) (hgo none 0 (by rw [hv, hn]) (by omega)), ?_⟩
    rw [hl0, hm0]
    refine ⟨rfl, ?_⟩
    rw [hφ]
    refine ⟨?_, hnl, ?_, ?_⟩
    · simp; omega
    · omega
    · omega
  | «at» L off cap hφ hv hc ho2 hb5 hnl =>
    have hLsz : L.sz = E.sz b := by
      rcases hr.some_ hhb with ⟨L', hL', hb'⟩ | ⟨hL', _⟩ | hL'
      · rw [hφ] at hL'; cases hL'; exact (hb'.fits : _ ∧ _).1
      · rw [hφ] at hL'; cases hL'
      · rw [hφ] at hL'; cases hL'
    refine ⟨_, exec_v (hex a) (hgo (some ⟨L.b, off, none⟩) cap hv hc), ?_⟩
    refine ⟨by split <;> rfl, ?_⟩
    rw [hφ]
    refine ⟨hnl, ?_⟩
    have hmc : m.toNat ≤ cap := by omega
    have hmul : m.toNat * L.sz ≤ cap * L.sz := Nat.mul_le_mul_right _ hmc
    by_cases hcl : m.toNat = (l.getD 0).toNat
    · refine ⟨off, m.toNat - (l.getD 0).toNat, by rw [if_pos hcl], by omega, .inl (by omega), ?_⟩
      rw [show m.toNat - (l.getD 0).toNat = 0 from by omega]
      have : off ≤ off + cap * L.sz := Nat.le_add_right _ _
      omega
    · have hoff : off = L.base + row * L.sz := by
        rcases ho2 with h0 | h0
        · omega
        · exact h0
      refine ⟨off + (l.getD 0).toNat * L.sz, m.toNat - (l.getD 0).toNat, ?_, by omega, .inr ?_, ?_⟩
      · rw [if_neg hcl]
        simp only [Option.map_some, addr_add, hsize, hLsz]
      · rw [hoff, Nat.add_mul]; omega
      · have h5 : m.toNat * L.sz = (l.getD 0).toNat * L.sz + (m.toNat - (l.getD 0).toNat) * L.sz := by rw [← Nat.add_mul]; congr 1; omega
        omega
end
end Go.Eng
