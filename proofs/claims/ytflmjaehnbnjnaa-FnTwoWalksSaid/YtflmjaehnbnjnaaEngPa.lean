import Derived.Test.YtflmjaehnbnjnaaEngO
set_option linter.all false
namespace Go.Eng
open Go Go.RowKit

section
variable {E : Env} {R : Type}

def Ref (φ φ' : List PE) : Prop := ∀ i pe, nth φ i = some pe → pe = .abs ∨ nth φ' i = some pe

theorem RP.ref {φ φ' : List PE} (e : Ref φ φ') {id row fld : Nat} {v : Value} (h : RP φ id row fld v) : RP φ' id row fld v := by
  refine ⟨h.1, ?_⟩
  have h2 := h.2
  cases hp : nth φ id with
  | none => rw [hp] at h2; exact h2.elim
  | some pe =>
    rw [hp] at h2
    rcases e id pe hp with rfl | h3
    · exact h2.elim
    · rw [h3]; exact h2
theorem RS.ref {φ φ' : List PE} (e : Ref φ φ') {s : SV} {v : Value} (h : RS φ s v) : RS φ' s v := by
  cases s with
  | ptr id row fld => exact RP.ref e h
  | slc id w nl =>
    refine ⟨h.1, ?_⟩
    have h2 := h.2
    cases hp : nth φ id with
    | none => rw [hp] at h2; exact h2.elim
    | some pe =>
      rw [hp] at h2
      rcases e id pe hp with rfl | h3
      · exact h2.elim
      · rw [h3]; exact h2
  | fn f caps => obtain ⟨cv, hv, h⟩ := h; exact ⟨cv, hv, h.mono fun _ _ => RP.ref e⟩
  | _ => exact h
theorem RC.ref {φ φ' : List PE} (e : Ref φ φ') {s : Bool × List SV} {v : Value} (h : RC φ s v) : RC φ' s v := by
  obtain ⟨b, l⟩ := s
  cases b with
  | true => obtain ⟨cs, hv, h⟩ := h; exact ⟨cs, hv, h.mono fun _ _ => RS.ref e⟩
  | false => obtain ⟨s, hs, h⟩ := h; exact ⟨s, hs, RS.ref e h⟩
theorem RA.ref {φ φ' : List PE} (e : Ref φ φ') {s : AV} {v : Value} (h : RA φ s v) : RA φ' s v := by
  cases s with
  | sc s => exact RS.ref e h
  | agg l => obtain ⟨cs, hv, h⟩ := h; exact ⟨cs, hv, h.mono fun _ _ => RS.ref e⟩
  | tup l => obtain ⟨cs, hv, h⟩ := h; exact ⟨cs, hv, h.mono fun _ _ => RC.ref e⟩

theorem RB.ref {φ φ' : List PE} {he : HE E} {L : Loc} {w w' : World} (h : RB φ he L w) (e : Ref φ φ') (hw : w'.heap[L.b]? = w.heap[L.b]?) : RB φ' he L w' := by
  obtain ⟨⟨c, t, fz, h1, h2, h3, h4⟩, h5⟩ := h
  exact ⟨⟨c, t, fz, hw ▸ h1, h2, fun j s hs => let ⟨v, hv, hr⟩ := h3 j s hs; ⟨v, hv, hr.ref e⟩, h4⟩, h5⟩

theorem Ent.ref {φ φ' : List PE} {w w' : World} {pe : PE} {x : Option (HE E)} (h : Ent φ w pe x) (e : Ref φ φ') (hw : ∀ b, b < w.heap.size → w'.heap[b]? = w.heap[b]?) : Ent φ' w' pe x := by
  cases pe with
  | dead => cases x <;> exact h
  | virt => cases x <;> exact h
  | abs => cases x <;> exact h
  | «at» L =>
    cases x with
    | none => exact h
    | some he => exact RB.ref h e (hw _ (RB.lt h))

theorem Ref.pre {φ : List PE} {n m : Nat} (h : n ≤ m) : Ref (φ.take n) (φ.take m) := fun i pe hp => .inr (by
  simp only [nth_eq, List.getElem?_take] at hp ⊢
  split at hp
  · rename_i h1; rw [if_pos (by omega)]; exact hp
  · cases hp)

theorem nth_take {α : Type} (l : List α) (n i : Nat) : nth (l.take n) i = if i < n then nth l i else none := by
  simp only [nth_eq, List.getElem?_take]

theorem nth_drop {α : Type} (l : List α) (n i : Nat) : nth (l.drop n) i = nth l (n + i) := by
  simp only [nth_eq, List.getElem?_drop]

theorem roAll_length (H : Hp E) : (roAll E H).length = H.length := by simp [roAll]
theorem nth_roAll (H : Hp E) (i : Nat) : nth (roAll E H) i = (nth H i).map (Option.map fun he => ⟨true, he.b⟩) := by unfold roAll; rw [nth_map]

theorem RH.roAll {φ : List PE} {H : Hp E} {w : World} (h : RH φ H w) : RH φ (roAll E H) w where
  len := by rw [roAll_length]; exact h.len
  ent := fun i pe x hp hx => by
    rw [nth_roAll] at hx
    obtain ⟨y, hy, rfl⟩ := Option.map_eq_some_iff.1 hx
    have := h.ent i pe y hp hy
    cases pe with
    | dead => cases y <;> exact this
    | abs => cases y <;> exact this
    | virt => cases y <;> exact this
    | «at» L =>
      cases y with
      | none => exact this
      | some he =>
        obtain ⟨⟨c, t, fz, h1, h2, h3, h4⟩, h5⟩ := this
        exact ⟨⟨c, t, fz, h1, h2, h3, fun e => by cases e⟩, h5⟩
  inj := fun i j L L' he _ _ _ hh hro => by
    rw [nth_roAll] at hh
    obtain ⟨y, hy, hye⟩ := Option.map_eq_some_iff.1 hh
    cases y with
    | none => cases hye
    | some y => cases hye; cases hro


theorem RH.same {φ : List PE} {H : Hp E} {w w' : World} (h : RH φ H w) (hw : ∀ b, b < w.heap.size → w'.heap[b]? = w.heap[b]?) : RH φ H w' :=
  ⟨h.len, fun i pe x hp hx => (h.ent i pe x hp hx).ref (fun _ _ e => .inr e) hw, h.inj⟩

theorem not_wb_roAll {φ : List PE} {H : Hp E} {w : World} {b : Nat} (hb : b < w.heap.size) : ¬ WB φ (roAll E H) w b := by
  intro hwb
  rcases hwb with h1 | ⟨j, L0, he0, h1, h2, h3, h4⟩
  · omega
  · rw [nth_roAll] at h3
    obtain ⟨y, hy, hye⟩ := Option.map_eq_some_iff.1 h3
    cases y with
    | none => cases hye
    | some y => cases hye; cases h4

theorem Inv.calm_back {φ0 : List PE} {H0 : Hp E} {w0 : World} {φ : List PE} {H : Hp E} {w : World} {φ' : List PE} {H1 : Hp E} {w' : World} (hI : Inv φ0 H0 w0 φ H w) (hI1 : Inv φ (roAll E H) w φ' H1 w') : Inv φ0 H0 w0 φ H w' := by
  have hsw : ∀ b, b < w.heap.size → w'.heap[b]? = w.heap[b]? := fun b hb => hI1.same b (not_wb_roAll hb)
  refine ⟨hI.rh.same hsw, hI.base, hI.hle, hI.rosame, hI.robase, hI.newro, hI.fresh, hI.calm.trans hI1.calm, Nat.le_trans hI.size hI1.size, fun b hb => ?_⟩
  rcases Nat.lt_or_ge b w.heap.size with h | h
  · rw [hsw b h]; exact hI.same b hb
  · refine absurd (.inl ?_) hb
    exact Nat.le_trans hI.size h
end
end Go.Eng
