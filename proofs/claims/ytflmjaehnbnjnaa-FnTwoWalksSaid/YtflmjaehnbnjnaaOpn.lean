import Derived.Test.YtflmjaehnbnjnaaEngZ2
set_option linter.all false
namespace Go.Eng
open Go Go.RowKit

inductive CK2 where
  | p (c : CK)
  | s (ks : List CK)

def SlcOk (w : World) (ks : List CK) (v : Value) : Prop :=
  v = .slice none 0 0 ∨ ∃ (b off len cap : Nat) (c : Array Value) (ty : TypeId) (fz : Nat × Nat), v = .slice (some ⟨b, off, none⟩) len cap ∧ len ≤ cap ∧ cap ≤ maxLen ∧ w.heap[b]? = some (.cells c ty fz) ∧ off + cap * ks.length ≤ c.size ∧
      ∃ rows : List (List Value), rows.length = len ∧ (∀ x ∈ rows, All2 ckOk ks x) ∧ ∀ i x, rows[i]? = some x → ∀ j u, x[j]? = some u → c[off + i * ks.length + j]? = some u

def ck2Ok (w : World) : CK2 → Value → Prop
  | .p c, v => ckOk c v
  | .s ks, v => SlcOk w ks v

def ck2Fs (P : Program) (ck : TypeId → Option (List (CK2 × TypeId))) : List Field → Nat → Option (List (CK2 × TypeId))
  | [], _ => some []
  | f :: l, o => match ck f.type with
    | some ks => cond (Nat.beq f.offset o && Nat.beq (P.cellsOf f.type) ks.length) ((ck2Fs P ck l (o + ks.length)).map (ks ++ ·)) none
    | none => none

def ck2Ty (P : Program) : Nat → TypeId → Option (List (CK2 × TypeId))
  | 0, _ => none
  | n + 1, t => match P.underlying t with
    | some .bool => some [(.p .bool, t)]
    | some (.int k) => some [(.p (.int k), t)]
    | some .string => some [(.p .str, t)]
    | some (.slice e) => match ckTy P n e with
      | some ks => cond (Nat.beq (P.cellsOf e) ks.length && Nat.blt 0 ks.length) (some [(.s ks, t)]) none
      | none => none
    | some (.struct fs) => match ck2Fs P (ck2Ty P n) fs.toList 0 with
      | some ks => cond (Nat.beq ks.length (P.cellsOf t)) (some ks) none
      | none => none
    | _ => none

theorem All2.take {α β : Type} {p : α → β → Prop} : ∀ {l : List α} {m : List β} (n : Nat), All2 p l m → All2 p (l.take n) (m.take n)
  | [], [], _, _ => by simp [All2]
  | _ :: _, _ :: _, 0, _ => trivial
  | _ :: l, _ :: m, n + 1, h => ⟨h.1, All2.take n h.2⟩
  | [], _ :: _, _, h => h.elim
  | _ :: _, [], _, h => h.elim

theorem All2.drop {α β : Type} {p : α → β → Prop} : ∀ {l : List α} {m : List β} (n : Nat), All2 p l m → All2 p (l.drop n) (m.drop n)
  | [], [], _, _ => by simp [All2]
  | _ :: _, _ :: _, 0, h => h
  | _ :: l, _ :: m, n + 1, h => All2.drop (l := l) (m := m) n h.2
  | [], _ :: _, _, h => h.elim
  | _ :: _, [], _, h => h.elim

section
variable {H : Type} {enc : TypeId × Value → H} {P : Program} {w : World} {base : Nat} {held : Bool} {r : Reach} {b0 : Nat}

theorem trod_ck2 : ∀ (n : Nat) (t : TypeId) (ks : List (CK2 × TypeId)), ck2Ty P n t = some ks → ∀ (fuel : Nat) (cs : List Value) (x : DataW H × List MemPlace), DataW.trod enc P w base (fun _ => true) held fuel t cs = some x →
    All2 (fun p v => Cell.okWide P w r b0 p.2 v) ks cs → All2 (fun (p : CK2 × TypeId) v => ck2Ok w p.1 v) ks cs := by
  intro n
  induction n with
  | zero => intro t ks h; cases h
  | succ n ih =>
    intro t ks h fuel cs x hx hw
    have plain : ∀ c : CK, ckTy P (n + 1) t = some [c] → ks = [(.p c, t)] → All2 (fun (p : CK2 × TypeId) v => ck2Ok w p.1 v) ks cs := fun c hc hk => by
      subst hk
      have h1 := trod_ck (n + 1) t [c] hc fuel cs x hx
      match cs, h1 with
      | [v], h1 => exact ⟨h1.1, trivial⟩
    unfold ck2Ty at h
    split at h
    · rename_i hu
      exact plain .bool (by unfold ckTy; rw [hu]) (by cases h; rfl)
    · rename_i k hu
      exact plain (.int k) (by unfold ckTy; rw [hu]) (by cases h; rfl)
    · rename_i hu
      exact plain .str (by unfold ckTy; rw [hu]) (by cases h; rfl)
    · rename_i e hu
      split at h
      · rename_i ks' hks
        obtain ⟨hc, h⟩ := cond_none_right h
        simp only [Bool.and_eq_true] at hc
        cases h
        match cs, hw, hx with
        | [v], hw, hx =>
          have hv : Value.okWide P w r b0 t v := by
            unfold Value.okWide
            rw [hu]
            exact hw.1
          have hone : ∀ v : Value, (∃ a l c, v = .slice a l c) → v.cells = #[v] := by rintro v ⟨a, l, c, rfl⟩; rfl
          have hsl : ∃ a l c, v = .slice a l c := by
            rcases DataW.trod_slice hu hx with ⟨h0, _⟩ | ⟨a', len', cap', _, _, _, _, hcs, _⟩
            · cases h0; exact ⟨_, _, _, rfl⟩
            · cases hcs; exact ⟨_, _, _, rfl⟩
          refine ⟨?_, trivial⟩
          have hT : DataW.Trod enc P w base (fun _ => true) held t v x.1 x.2 := ⟨fuel, by rw [hone v hsl]; exact hx⟩
          exact open_rows hu hks (Nat.eq_of_beq_eq_true hc.1) (by have := hc.2; simpa [Nat.blt_eq] using this) hv hT
      · cases h
    · rename_i fs hu
      split at h
      · rename_i ks' hks
        obtain ⟨hlen, h⟩ := cond_none_right h
        cases h
        have hlen := Nat.eq_of_beq_eq_true hlen
        cases fuel with
        | zero => cases hx
        | succ fuel =>
        unfold DataW.trod at hx
        rw [hu] at hx
        simp only at hx
        split at hx
        · rename_i hcs
          obtain ⟨ys, hys, _⟩ := Option.map_eq_some_iff.1 hx
          clear hx
          have key : ∀ (l : List Field) (o : Nat) (kl : List (CK2 × TypeId)) (ys : List (DataW H × List MemPlace)), ck2Fs P (ck2Ty P n) l o = some kl →
              l.mapM (fun f => DataW.trod enc P w base (fun _ => true) held fuel f.type ((cs.drop f.offset).take (P.cellsOf f.type))) = some ys → o + kl.length ≤ cs.length → All2 (fun p v => Cell.okWide P w r b0 p.2 v) kl ((cs.drop o).take kl.length) →
              All2 (fun (p : CK2 × TypeId) v => ck2Ok w p.1 v) kl ((cs.drop o).take kl.length) := by
            intro l
            induction l with
            | nil => intro o kl ys h _ _ _; cases h; simp [All2]
            | cons f l ihl =>
              intro o kl ys h hm hb hw
              obtain ⟨y, ys', hy, hm', rfl⟩ := mapM_cons_some hm
              unfold ck2Fs at h
              split at h
              · rename_i k1 hk1
                obtain ⟨hc, h⟩ := cond_none_right h
                simp only [Bool.and_eq_true] at hc
                obtain ⟨k2, hk2, rfl⟩ := Option.map_eq_some_iff.1 h
                have ho := Nat.eq_of_beq_eq_true hc.1
                have hn := Nat.eq_of_beq_eq_true hc.2
                simp only [List.length_append] at hb hw ⊢
                have e1 : (cs.drop o).take (k1.length + k2.length) = (cs.drop o).take k1.length ++ (cs.drop (o + k1.length)).take k2.length := by
                  rw [List.take_add, List.drop_drop]
                rw [e1] at hw ⊢
                have l1 : ((cs.drop o).take k1.length).length = k1.length := by simp; omega
                have w1 := All2.take k1.length hw
                rw [List.take_left' rfl, List.take_left' l1] at w1
                have w2 := All2.drop k1.length hw
                rw [List.drop_left' rfl, List.drop_left' l1] at w2
                rw [ho, hn] at hy
                exact (ih f.type k1 hk1 fuel _ y hy w1).append (ihl (o + k1.length) k2 ys' hk2 hm' (by omega) w2)
              · cases h
          have := key fs.toList 0 ks ys hks hys (by omega)
          rw [List.drop_zero, List.take_of_length_le (by omega)] at this
          exact this hw
        · cases hx
      · cases h
    · cases h

theorem open_arg {n : Nat} {t : TypeId} {ks : List (CK2 × TypeId)} (hk : ck2Ty P n t = some ks) {v : Value} {d : DataW H} {ps : List MemPlace} (h : DataW.Trod enc P w base (fun _ => true) held t v d ps)
    (hw : All2 (fun p v => Cell.okWide P w r b0 p.2 v) ks v.cells.toList) : All2 (fun (p : CK2 × TypeId) v => ck2Ok w p.1 v) ks v.cells.toList := by
  obtain ⟨fuel, h⟩ := h
  exact trod_ck2 n t ks hk fuel _ _ h hw

theorem okWide_cells {t : TypeId} {fs : Array Field} {ts : List TypeId} {v : Value} (hu : P.underlying t = some (.struct fs)) (hct : P.cellTypes P.depth t = some ts) (hsz : P.cellsOf t = ts.length) (h : Value.okWide P w r b0 t v) :
    ∃ cs : List Value, v = .agg cs.toArray ∧ All2 (fun u v => Cell.okWide P w r b0 u v) ts cs := by
  unfold Value.okWide at h
  rw [hu] at h
  obtain ⟨cs, e, hs, ts', hct', _, hall⟩ := h
  rw [hct] at hct'
  cases hct'
  refine ⟨cs.toList, by rw [e, Array.toArray_toList], All2.of_nth (by simp; omega) fun i u hi => ?_⟩
  have hil := nth_lt hi
  have hv : cs[i]? = some cs[i] := Array.getElem?_eq_getElem (by omega)
  obtain ⟨u', hu', hok⟩ := hall i _ hv
  rw [Nat.mod_eq_of_lt hil] at hu'
  rw [nth_eq] at hi
  rw [hi] at hu'
  cases hu'
  exact ⟨_, by simpa using hv, hok⟩

theorem okWide_cell {t : TypeId} {v : Value} {d : TypeDesc} (hu : P.underlying t = some d) (hd : aggOf d = false) (h : Value.okWide P w r b0 t v) : Cell.okWide P w r b0 t v := by
  unfold Value.okWide at h
  rw [hu] at h
  cases d <;> first | exact h | (cases hd; done)
end

def svWf : SV → Prop
  | .int k n => (Lit.int k n).wf = true
  | .str s => s.size ≤ maxLen
  | _ => True

def RowOf {T : Type} (rt : RT T) (ks : List CK) : Prop := ∀ row : List Value, All2 ckOk ks row → ∃ x : T, All2 (RS []) (rt.cells x) row ∧ ∀ s ∈ rt.cells x, svWf s

section
variable {E : Env} {w : World} {t : TypeId} {rest : List (CK2 × TypeId)} {l : List Value}

theorem c2_bool (h : All2 (fun (p : CK2 × TypeId) v => ck2Ok w p.1 v) ((.p .bool, t) :: rest) l) : ∃ b l', l = .bool b :: l' ∧ All2 (fun (p : CK2 × TypeId) v => ck2Ok w p.1 v) rest l' := by
  cases l with
  | nil => exact h.elim
  | cons v l => obtain ⟨⟨b, rfl⟩, h⟩ := h; exact ⟨b, l, rfl, h⟩
theorem c2_int {k : IntKind} (h : All2 (fun (p : CK2 × TypeId) v => ck2Ok w p.1 v) ((.p (.int k), t) :: rest) l) : ∃ n l', l = .int k n :: l' ∧ (Lit.int k n).wf = true ∧ All2 (fun (p : CK2 × TypeId) v => ck2Ok w p.1 v) rest l' := by
  cases l with
  | nil => exact h.elim
  | cons v l => obtain ⟨⟨n, rfl, hw⟩, h⟩ := h; exact ⟨n, l, rfl, hw, h⟩
theorem c2_str (h : All2 (fun (p : CK2 × TypeId) v => ck2Ok w p.1 v) ((.p .str, t) :: rest) l) : ∃ s l', l = .string s :: l' ∧ s.size ≤ maxLen ∧ All2 (fun (p : CK2 × TypeId) v => ck2Ok w p.1 v) rest l' := by
  cases l with
  | nil => exact h.elim
  | cons v l => obtain ⟨⟨s, rfl, hw⟩, h⟩ := h; exact ⟨s, l, rfl, hw, h⟩
theorem c2_nil (h : All2 (fun (p : CK2 × TypeId) v => ck2Ok w p.1 v) [] l) : l = [] := by
  cases l with
  | nil => rfl
  | cons v l => exact h.elim

theorem rows_of {T : Type} {rt : RT T} {ks : List CK} (hrow : RowOf rt ks) : ∀ rows : List (List Value), (∀ x ∈ rows, All2 ckOk ks x) → ∃ xs : List T, xs.length = rows.length ∧ (∀ x ∈ xs, ∀ s ∈ rt.cells x, svWf s) ∧
    ∀ (i : Nat) (x : T), nth xs i = some x → ∃ row, rows[i]? = some row ∧ All2 (RS []) (rt.cells x) row
  | [], _ => ⟨[], rfl, fun x hx => (by cases hx), fun i x hx => (by cases hx)⟩
  | row :: rows, h => by
    obtain ⟨x, hx, hwf⟩ := hrow row (h row List.mem_cons_self)
    obtain ⟨xs, h1, h2, h3⟩ := rows_of hrow rows fun x hx => h x (List.mem_cons_of_mem _ hx)
    refine ⟨x :: xs, by simp [h1], fun y hy => ?_, fun i y hy => ?_⟩
    · rcases List.mem_cons.1 hy with rfl | hy
      · exact hwf
      · exact h2 y hy
    · cases i with
      | zero => cases hy; exact ⟨row, rfl, hx⟩
      | succ i => simpa using h3 i y hy

theorem RS.plain_any {φ : List PE} {s : SV} {v : Value} (hp : s.plain = true) (h : RS [] s v) : RS φ s v := by
  cases s <;> first | exact h | (cases hp; done)

theorem c2_slc {P : Program} {T : Type} {rt : RT T} {ks : List CK} {ctor : List T → E.B} (hrt : RTOk P rt) (hrow : RowOf rt ks) (hks : rt.sz = ks.length) (hcells : ∀ xs, E.cells (ctor xs) = rtCells rt xs) (hlen : ∀ xs, E.len (ctor xs) = xs.length) (hsz : ∀ xs, E.sz (ctor xs) = rt.sz)
    (h : All2 (fun (p : CK2 × TypeId) v => ck2Ok w p.1 v) ((.s ks, t) :: rest) l) : ∃ (xs : List T) (nl : Bool) (pe : PE) (v : Value) (l' : List Value), l = v :: l' ∧ xs.length ≤ maxLen ∧ (∀ x ∈ xs, ∀ s ∈ rt.cells x, svWf s) ∧
      (∀ φ, Ent (E := E) φ w pe (some ⟨true, .rows (ctor xs)⟩)) ∧ (∀ φ i, nth φ i = some pe → RS φ (.slc i none nl) v) ∧ All2 (fun (p : CK2 × TypeId) v => ck2Ok w p.1 v) rest l' := by
  cases l with
  | nil => exact h.elim
  | cons v l =>
    obtain ⟨hv, h⟩ := h
    have hv : SlcOk w ks v := hv
    rcases hv with rfl | ⟨b, off, len, cap, c, ty, fz, rfl, hlc, hcm, hheap, hin, rows, hrl, hrows, hat⟩
    · refine ⟨[], true, .virt, _, l, rfl, Nat.zero_le _, fun x hx => (by cases hx), fun φ => ⟨?_, _, rfl⟩, fun φ i hi => ⟨rfl, ?_⟩, h⟩
      · show E.cells (ctor []) = []
        rw [hcells]; rfl
      · rw [hi]; exact ⟨rfl, rfl, trivial⟩
    · obtain ⟨xs, h1, h2, h3⟩ := rows_of hrow rows hrows
      have hxl : xs.length = len := h1.trans hrl
      refine ⟨xs, false, .at ⟨b, off, c.size, rt.sz, len⟩, _, l, rfl, by omega, h2, fun φ => ⟨⟨c, ty, fz, hheap, rfl, fun j s hs => ?_, fun e => by cases e⟩, hsz xs ▸ rfl, by rw [hlen, hxl]⟩, fun φ i hi => ⟨rfl, ?_⟩, h⟩
      · have hs : nth (rtCells rt xs) j = some s := by rw [← hcells]; exact hs
        have hpos : 0 < rt.sz := by obtain ⟨_, _, _, h⟩ := hrt.info; exact h
        have hj := nth_lt hs
        rw [rtCells_length hrt] at hj
        have hq : j / rt.sz < xs.length := Nat.div_lt_of_lt_mul (by rw [Nat.mul_comm]; exact hj)
        obtain ⟨x, hx⟩ := nth_some hq
        have hr := rtCells_row hrt xs (j / rt.sz) x hx
        have hmod : j % rt.sz < rt.sz := Nat.mod_lt _ hpos
        have hsx : nth (rt.cells x) (j % rt.sz) = some s := by
          rw [hr, nth_seg, if_pos hmod, Nat.mul_comm, Nat.div_add_mod]
          exact hs
        obtain ⟨row, hrow1, hrow2⟩ := h3 _ x hx
        obtain ⟨u, hu, hru⟩ := hrow2.nth hsx
        refine ⟨u, ?_, RS.plain_any (hrt.plain x s (by rw [nth_eq] at hsx; exact List.mem_of_getElem? hsx)) hru⟩
        have := hat _ row hrow1 _ u hu
        rw [← hks, Nat.add_assoc, Nat.mul_comm, Nat.div_add_mod] at this
        exact this
      · rw [hi]
        refine ⟨rfl, cap, rfl, hlc, ?_⟩
        show off + cap * rt.sz ≤ c.size
        rw [hks]; exact hin

theorem RH.ofRo : ∀ {pes : List PE} {bs : List E.B}, All2 (fun pe b => ∀ φ, Ent (E := E) φ w pe (some ⟨true, .rows b⟩)) pes bs → RH pes (bs.map fun b => some ⟨true, HB.rows b⟩) w := by
  intro pes bs h
  refine ⟨by simp [h.length], fun i pe x hp hx => ?_, fun i j L L' he _ _ _ hh hro => ?_⟩
  · obtain ⟨b, hb, hent⟩ := h.nth hp
    rw [nth_map, nth_eq, hb] at hx
    cases hx
    exact hent pes
  · rw [nth_map] at hh
    obtain ⟨b, _, hb⟩ := Option.map_eq_some_iff.1 hh
    cases hb; cases hro

theorem All2.of_map {α β γ : Type} {f : α → γ} {p : γ → β → Prop} : ∀ {l : List α} {m : List β}, All2 p (l.map f) m → All2 (fun a b => p (f a) b) l m
  | [], [], _ => trivial
  | _ :: l, _ :: m, h => ⟨h.1, All2.of_map (l := l) (m := m) h.2⟩
  | [], _ :: _, h => h.elim
  | _ :: _, [], h => h.elim

theorem ro_map {bs : List E.B} {i : Nat} {he : HE E} (h : nth (bs.map fun b => some (⟨true, HB.rows b⟩ : HE E)) i = some (some he)) : he.ro = true := by
  rw [nth_map] at h
  obtain ⟨b, _, hb⟩ := Option.map_eq_some_iff.1 h
  cases hb; rfl
end

theorem cell_one {P : Program} {w : World} {r : Reach} {b : Nat} {t : TypeId} {v : Value} (h : Cell.okWide P w r b t v) : v.cells = #[v] := by
  cases v with
  | agg cs =>
    exfalso
    unfold Cell.okWide at h
    split at h <;> first | (rename_i e; cases e; done) | skip
    all_goals (unfold Cell.ok at h; split at h <;> first | exact h | simp_all)
  | _ => rfl

section
variable {H : Type} {enc : TypeId × Value → H} {P : Program} {w : World} {base : Nat} {held : Bool} {r : Reach} {b0 : Nat}
theorem open_cell {n : Nat} {t : TypeId} {k : CK2} (hk : ck2Ty P n t = some [(k, t)]) {d0 : TypeDesc} (hu : P.underlying t = some d0) (hd : aggOf d0 = false) {v : Value} {d : DataW H} {ps : List MemPlace} (h : DataW.Trod enc P w base (fun _ => true) held t v d ps)
    (hw : Value.okWide P w r b0 t v) : All2 (fun (p : CK2 × TypeId) v => ck2Ok w p.1 v) [(k, t)] [v] := by
  have hc := okWide_cell hu hd hw
  have h1 := open_arg hk h (r := r) (b0 := b0) (by rw [cell_one hc]; exact ⟨hc, trivial⟩)
  rw [cell_one hc] at h1
  exact h1
end
end Go.Eng
