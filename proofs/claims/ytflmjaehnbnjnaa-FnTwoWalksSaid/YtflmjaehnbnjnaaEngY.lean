import Derived.Test.YtflmjaehnbnjnaaEngW
import Derived.Test.YtflmjaehnbnjnaaEngX
import Derived.SizedLaws
import Derived.OpenShut
set_option linter.all false
namespace Go.Eng
open Go Go.RowKit

inductive CK where
  | bool
  | int (k : IntKind)
  | str

def ckOk : CK → Value → Prop
  | .bool, v => ∃ b, v = .bool b
  | .int k, v => ∃ n, v = .int k n ∧ (Lit.int k n).wf = true
  | .str, v => ∃ s, v = .string s ∧ s.size ≤ maxLen

def ckFs (P : Program) (ck : TypeId → Option (List CK)) : List Field → Nat → Option (List CK)
  | [], _ => some []
  | f :: l, o => match ck f.type with
    | some ks => cond (Nat.beq f.offset o && Nat.beq (P.cellsOf f.type) ks.length) ((ckFs P ck l (o + ks.length)).map (ks ++ ·)) none
    | none => none

def ckTy (P : Program) : Nat → TypeId → Option (List CK)
  | 0, _ => none
  | n + 1, t => match P.underlying t with
    | some .bool => some [.bool]
    | some (.int k) => some [.int k]
    | some .string => some [.str]
    | some (.struct fs) => match ckFs P (ckTy P n) fs.toList 0 with
      | some ks => cond (Nat.beq ks.length (P.cellsOf t)) (some ks) none
      | none => none
    | _ => none

section
variable {H : Type} {enc : TypeId × Value → H} {P : Program} {w : World} {base : Nat} {sp : Nat → Bool} {held : Bool}

theorem mapM_cons_some {α β : Type} {f : α → Option β} {a : α} {l : List α} {ys : List β} (h : (a :: l).mapM f = some ys) : ∃ y ys', f a = some y ∧ l.mapM f = some ys' ∧ ys = y :: ys' := by
  rw [List.mapM_cons] at h
  cases hy : f a with
  | none => rw [hy] at h; cases h
  | some y =>
    cases hys : l.mapM f with
    | none => rw [hy, hys] at h; cases h
    | some ys' => rw [hy, hys] at h; cases h; exact ⟨y, ys', rfl, rfl, rfl⟩

theorem trod_ck : ∀ (n : Nat) (t : TypeId) (ks : List CK), ckTy P n t = some ks → ∀ (fuel : Nat) (cs : List Value) (x : DataW H × List MemPlace), DataW.trod enc P w base sp held fuel t cs = some x → All2 ckOk ks cs := by
  intro n
  induction n with
  | zero => intro t ks h; cases h
  | succ n ih =>
    intro t ks h fuel cs x hx
    cases fuel with
    | zero => cases hx
    | succ fuel =>
      unfold ckTy at h
      split at h
      · rename_i hu
        cases h
        unfold DataW.trod at hx
        rw [hu] at hx
        match cs, hx with
        | [.bool b], _ => exact ⟨⟨b, rfl⟩, trivial⟩
      · rename_i k hu
        cases h
        unfold DataW.trod at hx
        rw [hu] at hx
        match cs, hx with
        | [.int k' m], hx =>
          simp only at hx
          split at hx
          · rename_i hc; obtain ⟨rfl, hw⟩ := hc; exact ⟨⟨m, rfl, hw⟩, trivial⟩
          · cases hx
      · rename_i hu
        cases h
        unfold DataW.trod at hx
        rw [hu] at hx
        match cs, hx with
        | [.string s], hx =>
          simp only at hx
          split at hx
          · rename_i hc; exact ⟨⟨s, rfl, hc⟩, trivial⟩
          · cases hx
      · rename_i fs hu
        split at h
        · rename_i ks' hks
          obtain ⟨hlen, h⟩ := cond_none_right h
          cases h
          have hlen := Nat.eq_of_beq_eq_true hlen
          unfold DataW.trod at hx
          rw [hu] at hx
          simp only at hx
          split at hx
          · rename_i hcs
            obtain ⟨ys, hys, _⟩ := Option.map_eq_some_iff.1 hx
            clear hx
            have key : ∀ (l : List Field) (o : Nat) (ks : List CK) (ys : List (DataW H × List MemPlace)), ckFs P (ckTy P n) l o = some ks →
                l.mapM (fun f => DataW.trod enc P w base sp held fuel f.type ((cs.drop f.offset).take (P.cellsOf f.type))) = some ys → o + ks.length ≤ cs.length → All2 ckOk ks ((cs.drop o).take ks.length) := by
              intro l
              induction l with
              | nil => intro o ks ys h _ _; cases h; simp [All2]
              | cons f l ihl =>
                intro o ks ys h hm hb
                obtain ⟨y, ys', hy, hm', rfl⟩ := mapM_cons_some hm
                unfold ckFs at h
                split at h
                · rename_i k1 hk1
                  obtain ⟨hc, h⟩ := cond_none_right h
                  simp only [Bool.and_eq_true] at hc
                  obtain ⟨k2, hk2, rfl⟩ := Option.map_eq_some_iff.1 h
                  have ho := Nat.eq_of_beq_eq_true hc.1
                  have hn := Nat.eq_of_beq_eq_true hc.2
                  have h1 := ih f.type k1 hk1 fuel _ y hy
                  rw [ho, hn] at h1
                  simp only [List.length_append] at hb ⊢
                  have h2 := ihl (o + k1.length) k2 ys' hk2 hm' (by omega)
                  have : (cs.drop o).take (k1.length + k2.length) = (cs.drop o).take k1.length ++ (cs.drop (o + k1.length)).take k2.length := by
                    rw [List.take_add, List.drop_drop]
                  rw [this]
                  exact h1.append h2
                · cases h
            have := key fs.toList 0 ks ys hks hys (by omega)
            rw [List.drop_zero, List.take_of_length_le (by omega)] at this
            exact this
          · cases hx
        · cases h
      · cases h
end

theorem ck_bool {ks : List CK} {l : List Value} (h : All2 ckOk (.bool :: ks) l) : ∃ b l', l = .bool b :: l' ∧ All2 ckOk ks l' := by
  cases l with
  | nil => exact h.elim
  | cons v l => obtain ⟨⟨b, rfl⟩, h⟩ := h; exact ⟨b, l, rfl, h⟩
theorem ck_int {k : IntKind} {ks : List CK} {l : List Value} (h : All2 ckOk (.int k :: ks) l) : ∃ n l', l = .int k n :: l' ∧ (Lit.int k n).wf = true ∧ All2 ckOk ks l' := by
  cases l with
  | nil => exact h.elim
  | cons v l => obtain ⟨⟨n, rfl, hw⟩, h⟩ := h; exact ⟨n, l, rfl, hw, h⟩
theorem ck_str {ks : List CK} {l : List Value} (h : All2 ckOk (.str :: ks) l) : ∃ s l', l = .string s :: l' ∧ s.size ≤ maxLen ∧ All2 ckOk ks l' := by
  cases l with
  | nil => exact h.elim
  | cons v l => obtain ⟨⟨s, rfl, hw⟩, h⟩ := h; exact ⟨s, l, rfl, hw, h⟩
theorem ck_nil {l : List Value} (h : All2 ckOk [] l) : l = [] := by
  cases l with
  | nil => rfl
  | cons v l => exact h.elim

theorem okWide_agg {P : Program} {W : World} {r : Reach} {base : Nat} {t : TypeId} {v : Value} {fs : Array Field} (hu : P.underlying t = some (.struct fs)) (h : Value.okWide P W r base t v) : ∃ cs : List Value, v = .agg cs.toArray := by
  unfold Value.okWide at h
  rw [hu] at h
  obtain ⟨cs, e, _⟩ := h
  exact ⟨cs.toList, by rw [e, Array.toArray_toList]⟩

section
variable {E : Env}
theorem Sim.below {f : FuncId} {args : List AV} {H : Hp E} {v : AV} {H' : Hp E} (h : Sim E f args H v H') (hro : ∀ i he, nth H i = some (some he) → he.ro = true) {φ : List PE} {w : World} {av : List Value}
    (hav : All2 (RA φ) args av) (hr : RH φ H w) : Calls E.P f av.toArray w fun e w' => ∃ rv φ', e = .returned rv ∧ RA φ' v rv ∧ Below w.heap.size w w' := by
  refine (h.2 φ w av hav hr).mono ?_
  rintro e w' ⟨rv, φ', rfl, hI, hv⟩
  refine ⟨rv, φ', rfl, hv, hI.calm.os, hI.calm.tape, hI.calm.output, hI.size, fun k hk => hI.same k fun hwb => ?_⟩
  rcases hwb with h1 | ⟨j, L0, he0, _, _, h3, h4⟩
  · omega
  · rw [hro j he0 h3] at h4; cases h4

theorem Sim.law {f : FuncId} {args : List AV} {H : Hp E} {H' : Hp E} (h : Sim E f args H (.sc (.bool true)) H') (hro : ∀ i he, nth H i = some (some he) → he.ro = true) {φ : List PE} {w : World} {av : List Value}
    (hav : All2 (RA φ) args av) (hr : RH φ H w) : Calls E.P f av.toArray w fun e w' => e = .returned (.bool true) ∧ Below w.heap.size w w' := by
  refine (h.below hro hav hr).mono ?_
  rintro e w' ⟨rv, φ', rfl, hv, hb⟩
  have hv : rv = .bool true := hv
  rw [hv]
  exact ⟨rfl, hb⟩

theorem RH.nil {w : World} : RH [] ([] : Hp E) w := ⟨rfl, fun _ _ _ h => (by cases h), fun _ _ _ _ _ _ h => (by cases h)⟩

def FnOk (E : Env) (f : FuncId) (o : ∀ {R : Type}, List AV → Hp E → (AV → Hp E → Option R) → Option R) : Prop :=
  ∀ {R : Type} (args : List AV) (H : Hp E) (K : AV → Hp E → Option R) (r : R), o args H K = some r → ∃ v H', K v H' = some r ∧ Sim E f args H v H'

def addFn (f : FuncId) (o : ∀ {R : Type}, List AV → Hp E → (AV → Hp E → Option R) → Option R) (O : Orc E) : Orc E :=
  fun {R} g args H K => cond (Nat.beq g f) (o (R := R) args H K) (O g args H K)

theorem addFn_ok {f : FuncId} {o : ∀ {R : Type}, List AV → Hp E → (AV → Hp E → Option R) → Option R} {O : Orc E} (h : FnOk E f o) (hO : OrcOk O) : OrcOk (addFn f o O) := by
  intro R g args H K r e
  unfold addFn at e
  rcases cond_some e with ⟨hg, e'⟩ | ⟨_, e'⟩
  · rw [Nat.eq_of_beq_eq_true hg]
    exact h args H K r e'
  · exact hO g args H K r e'

def noFn : Orc E := fun {_} _ _ _ _ => none
theorem noFn_ok : OrcOk (noFn (E := E)) := fun _ _ _ _ _ h => by cases h

theorem FnOk.sim {f : FuncId} {o : ∀ {R : Type}, List AV → Hp E → (AV → Hp E → Option R) → Option R} (h : FnOk E f o) {args : List AV} {H : Hp E} {v : AV} {H' : Hp E} (e : o args H (fun v H => some (v, H)) = some (v, H')) : Sim E f args H v H' := by
  obtain ⟨v2, H2, e2, hs⟩ := h args H _ _ e
  cases e2
  exact hs
end
end Go.Eng
