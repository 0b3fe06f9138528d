import Derived.Test.YtflmjaehnbnjnaaEngZ
import Derived.ChangeSlices
set_option linter.all false
namespace Go.Eng
open Go Go.RowKit

theorem rowAt_le {p : Program} {fits : TypeId → Bool} : ∀ {d : Nat} {e : TypeId} {count off n : Nat}, rowAt p fits d e count off n = true → off ≤ count * p.cellsOf e := by
  intro d
  cases d with
  | zero => intro e count off n h; cases h
  | succ d =>
    intro e count off n h
    unfold rowAt at h
    simp only at h
    split at h
    · cases h
    · rename_i hs
      have hdm := Nat.div_add_mod off (p.cellsOf e)
      have hlt := Nat.mod_lt off (Nat.pos_of_ne_zero hs)
      simp only [Bool.or_eq_true, Bool.and_eq_true, decide_eq_true_eq, beq_iff_eq] at h
      rcases h with ⟨⟨h1, h2⟩, _⟩ | ⟨h1, _⟩
      · have : off / p.cellsOf e * p.cellsOf e ≤ count * p.cellsOf e := Nat.mul_le_mul_right _ (by omega)
        rw [Nat.mul_comm] at this
        omega
      · have : (off / p.cellsOf e + 1) * p.cellsOf e ≤ count * p.cellsOf e := Nat.mul_le_mul_right _ h1
        rw [Nat.add_mul, Nat.mul_comm (off / p.cellsOf e)] at this
        omega

theorem liesAt_le {p : Program} : ∀ {d : Nat} {e : TypeId} {count off : Nat} {u : TypeId} {n : Nat}, liesAt p d e count off u n = true → off ≤ count * p.cellsOf e := by
  intro d
  induction d with
  | zero => intro e count off u n h; cases h
  | succ d ih =>
    intro e count off u n h
    unfold liesAt at h
    simp only [Bool.or_eq_true] at h
    rcases h with h | h
    · exact rowAt_le h
    · split at h
      · exact ih h
      · cases h

section
variable {H : Type} {enc : TypeId × Value → H} {P : Program} {w : World} {base : Nat} {held : Bool}

theorem open_rows {t e : TypeId} {ks : List CK} {m : Nat} {r : Reach} {b0 : Nat} {v : Value} {d : DataW H} {ps : List MemPlace} (ht : P.underlying t = some (.slice e)) (hk : ckTy P m e = some ks) (hsz : P.cellsOf e = ks.length) (hpos : 0 < ks.length)
    (hval : Value.okWide P w r b0 t v) (h : DataW.Trod enc P w base (fun _ => true) held t v d ps) :
    v = .slice none 0 0 ∨ ∃ (b off len cap : Nat) (c : Array Value) (ty : TypeId) (fz : Nat × Nat), v = .slice (some ⟨b, off, none⟩) len cap ∧ len ≤ cap ∧ cap ≤ maxLen ∧ w.heap[b]? = some (.cells c ty fz) ∧ off + cap * ks.length ≤ c.size ∧
      ∃ rows : List (List Value), rows.length = len ∧ (∀ x ∈ rows, All2 ckOk ks x) ∧ ∀ i x, rows[i]? = some x → ∀ j u, x[j]? = some u → c[off + i * ks.length + j]? = some u := by
  have hc : Cell.okWide P w r b0 t v := by
    unfold Value.okWide at hval
    rw [ht] at hval
    exact hval
  unfold Cell.okWide at hc
  rw [ht] at hc
  have hc : Cell.ok P w r b0 t v := by
    cases v <;> exact hc
  unfold Cell.ok at hc
  rw [ht] at hc
  obtain ⟨fuel, h⟩ := h
  cases v with
  | slice a len cap =>
    cases a with
    | none =>
      left
      cases len <;> cases cap <;> first | rfl | exact hc.elim
    | some a =>
      right
      obtain ⟨hlc, _, _, hspot, row, cells, hshape, hlies⟩ := hc
      rcases DataW.trod_slice ht h with ⟨h0, _⟩ | ⟨a', len', cap', elems, rest, n, _, hcs, _, hb, hl, hm, hlen, hel, hsp, _⟩
      · cases h0
      · have hcs : [Value.slice (some a) len cap] = [Value.slice (some a') len' cap'] := hcs
        cases hcs
        obtain ⟨b, off, spot⟩ := a
        simp only at hspot
        subst hspot
        have hheap : ∃ c ty fz, w.heap[b]? = some (.cells c ty fz) ∧ row = ty ∧ cells = c.size := by
          unfold World.shape? at hshape
          simp only at hshape
          split at hshape
          · rename_i c elem fz heq
            cases hshape
            exact ⟨c, row, fz, heq, rfl, rfl⟩
          · cases hshape
        obtain ⟨c, ty, fz, hheap, rfl, rfl⟩ := hheap
        have hspare := hsp rfl
        -- each place of the row
        have each : ∀ i, i < cap → ∃ cs, cs.length = ks.length ∧ All2 ckOk ks cs ∧ ∀ j u, cs[j]? = some u → c[off + i * ks.length + j]? = some u := fun i hi => by
          have hb' : ∃ y, (w.cells? base ((⟨b, off, none⟩ : Addr).add (i * P.cellsOf e)) (P.cellsOf e)).bind (DataW.trod enc P w base (fun _ => true) held n e) = some y := by
            by_cases h1 : i < len
            · rw [hel i h1]
              exact ⟨elems[i], List.getElem?_eq_getElem (by omega)⟩
            · have := hspare.2 (i - len) (by omega)
              rw [show len + (i - len) = i from by omega] at this
              rw [this]
              exact ⟨rest[i - len], List.getElem?_eq_getElem (by omega)⟩
          obtain ⟨y, hy⟩ := hb'
          rw [Option.bind_eq_some_iff] at hy
          obtain ⟨cs, hcs, hy⟩ := hy
          obtain ⟨_, h2, h3⟩ := World.cells?_some hcs
          refine ⟨cs, by rw [h2, hsz], trod_ck m e ks hk n cs y hy, fun j u hu => ?_⟩
          have hj : j < P.cellsOf e := by rw [← h2]; exact (List.getElem?_eq_some_iff.1 hu).1
          have h4 := h3 j hj
          rw [hu, addr_add, addr_add, cell_of hheap, hsz] at h4
          exact h4
        refine ⟨b, off, len, cap, c, row, fz, rfl, hl, hm, hheap, ?_, ?_⟩
        · rcases Nat.eq_zero_or_pos cap with h0 | h0
          · have h1 : off ≤ c.size / P.cellsOf row * P.cellsOf row := liesAt_le hlies
            have h2 : c.size / P.cellsOf row * P.cellsOf row ≤ c.size := Nat.div_mul_le_self _ _
            rw [h0]; omega
          · obtain ⟨cs, h1, _, h3⟩ := each (cap - 1) (by omega)
            have h4 := h3 (ks.length - 1) cs[ks.length - 1] (List.getElem?_eq_getElem (by omega))
            have h5 := (Array.getElem?_eq_some_iff.1 h4).1
            have h6 : cap * ks.length = (cap - 1) * ks.length + ks.length := by
              conv => lhs; rw [show cap = (cap - 1) + 1 from by omega]
              rw [Nat.succ_mul]
            omega
        · have key : ∀ k, k ≤ len → ∃ rows : List (List Value), rows.length = k ∧ (∀ x ∈ rows, All2 ckOk ks x) ∧ ∀ i x, rows[i]? = some x → ∀ j u, x[j]? = some u → c[off + i * ks.length + j]? = some u := by
            intro k
            induction k with
            | zero => intro _; exact ⟨[], rfl, fun x hx => (by cases hx), fun i x hx => by simp at hx⟩
            | succ k ih =>
              intro hk'
              obtain ⟨rows, h1, h2, h3⟩ := ih (by omega)
              obtain ⟨cs, _, h5, h6⟩ := each k (by omega)
              refine ⟨rows ++ [cs], by simp [h1], fun x hx => ?_, fun i x hx => ?_⟩
              · rcases List.mem_append.1 hx with hx | hx
                · exact h2 x hx
                · rw [List.mem_singleton.1 hx]; exact h5
              · rw [List.getElem?_append] at hx
                split at hx
                · exact h3 i x hx
                · rename_i hge
                  have hi : i = k := by
                    have := (List.getElem?_eq_some_iff.1 hx).1
                    simp at this; omega
                  subst hi
                  rw [h1, Nat.sub_self] at hx
                  cases hx
                  exact h6
          exact key len (Nat.le_refl _)
  | _ => first | exact hc.elim | cases h
end
end Go.Eng
