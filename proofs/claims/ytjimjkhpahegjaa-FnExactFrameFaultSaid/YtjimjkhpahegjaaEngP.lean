import Derived.Test.YtjimjkhpahegjaaEngO
namespace Go.Eng
open Go Go.RowKit

section
variable {E : Env} {R : Type}

theorem nset_same {α : Type} : ∀ {l : List α} {n : Nat} {x : α}, nth l n = some x → nset l n x = l
  | [], _, _, h => by simp [nth] at h
  | a :: l, 0, x, h => by simp [nth] at h; subst h; rfl
  | a :: l, n + 1, x, h => by simp only [nset]; rw [nset_same (l := l) (n := n) h]

/-- Whether an operation is carried out, from the frame. -/
def GoIs (ops : Array Oper) (F : Fr) (g : Option (Nat × Bool)) (go : Bool) : Prop :=
  match g with
  | none => go = true
  | some (j, want) => ∃ t, dstOf ops j = some t ∧ ((∃ b, nth F t = some (some (.sc (.bool b))) ∧ go = (b == want)) ∨ (nth F t = some (some (.tup [])) ∧ go = false))

theorem guardK_some {ops : Array Oper} {F : Fr} {g : Option (Nat × Bool)} {K : Bool → Fr → Option R} {r : R} (h : guardK ops F g K = some r) : ∃ go, GoIs ops F g go ∧ K go F = some r := by
  unfold guardK at h
  split at h
  · exact ⟨true, rfl, h⟩
  · rename_i j want
    split at h
    · cases h
    · rename_i t ht
      split at h
      · rename_i b hb
        rcases cond_some h with ⟨hbt, h⟩ | ⟨hbf, h⟩
        · subst hbt
          rw [nset_same hb] at h
          exact ⟨want, ⟨t, ht, .inl ⟨true, hb, by cases want <;> rfl⟩⟩, h⟩
        · subst hbf
          rw [nset_same hb] at h
          exact ⟨!want, ⟨t, ht, .inl ⟨false, hb, by cases want <;> rfl⟩⟩, h⟩
      · rename_i hb
        exact ⟨false, ⟨t, ht, .inr ⟨hb, rfl⟩⟩, h⟩
      · cases h

theorem pickSplit_some {o : Oper} {F : Fr} {K : Fr → Option R} {r : R} (h : pickSplit o F K = some r) : K F = some r := by
  unfold pickSplit at h
  split at h
  · split at h
    · rename_i b hb
      rcases cond_some h with ⟨hbt, h⟩ | ⟨hbf, h⟩
      · subst hbt; rwa [nset_same hb] at h
      · subst hbf; rwa [nset_same hb] at h
    · cases h
  · exact h

theorem putK_some {F : Fr} {dst : Option Tmp} {v : AV} {K : Fr → Option R} {r : R} (h : putK F dst v K = some r) :
    (dst = none ∧ K F = some r) ∨ ∃ d, dst = some d ∧ d < F.length ∧ K (nset F d (some v)) = some r := by
  unfold putK at h
  split at h
  · exact .inl ⟨rfl, h⟩
  · rename_i d
    obtain ⟨hd, h⟩ := cond_none_right h
    exact .inr ⟨d, rfl, Nat.le_of_ble_eq_true hd, h⟩

theorem GoIs.wanted {ops : Array Oper} {F : Fr} {o : Oper} {go : Bool} (h : GoIs ops F o.guard go) {φ : List PE} {tmps : Array Value} (hF : RF φ F tmps) : Region.wanted o (yielded ops tmps) = go := by
  unfold GoIs at h
  unfold Region.wanted
  split at h
  · rename_i hg; rw [hg]; exact h.symm
  · rename_i j want hg
    rw [hg]
    obtain ⟨t, ht, h⟩ := h
    have hdst : (ops[j]?).bind (·.dst) = some t := by
      unfold dstOf at ht
      rw [nth_eq] at ht
      simpa using ht
    simp only [yielded, hdst, Option.bind_some]
    rcases h with ⟨b, hb, rfl⟩ | ⟨hb, rfl⟩
    · obtain ⟨v, hv, hr⟩ := hF.2 t _ hb
      have hr : v = .bool b := hr
      subst hr
      rw [hv]
      cases b <;> cases want <;> rfl
    · obtain ⟨v, hv, cs, rfl, hc⟩ := hF.2 t _ hb
      rw [hv]
      rfl

/-- From a frame and a heap on, the operations of a list come to another. -/
def OpsOk (E : Env) (ops : Array Oper) (l : List Oper) (F : Fr) (H : Hp E) (F' : Fr) (H' : Hp E) : Prop :=
  ∀ (φ0 : List PE) (H0 : Hp E) (w0 : World) (φ : List PE) (a : Act) (w : World) (Q : Exit → Act → World → Prop), φ0.length = H0.length → Inv φ0 H0 w0 φ H w → RF φ F a.tmps →
    (∀ φ' a' w', Inv φ0 H0 w0 φ' H' w' → RF φ' F' a'.tmps → a'.defers = a.defers → Q .normal a' w') → wpList E.P ops Q l a w

theorem put_defers (a : Act) (d : Option Tmp) (v : Value) : (a.put d v).defers = a.defers := by cases d <;> rfl

theorem RF.put' {φ : List PE} {F F' : Fr} {a : Act} {dst : Option Tmp} {av : AV} {v : Value} (h : RF φ F a.tmps) (hv : RA φ av v) (hp : (dst = none ∧ F' = F) ∨ ∃ d, dst = some d ∧ d < F.length ∧ F' = nset F d (some av)) :
    RF φ F' (a.put dst v).tmps := by
  rcases hp with ⟨rfl, rfl⟩ | ⟨d, rfl, hd, rfl⟩
  · exact h
  · exact h.put hv hd

theorem evalOps_ok (ok : EnvOk E) {O : Orc E} (hO : OrcOk O) {fro : Bool} {ops : Array Oper} : ∀ (l : List Oper) (F : Fr) (H : Hp E) (K : Fr → Hp E → Option R) (r : R), evalOps E O fro ops l F H K = some r →
    ∃ F' H', K F' H' = some r ∧ OpsOk E ops l F H F' H' := by
  intro l
  induction l with
  | nil =>
    intro F H K r h
    exact ⟨F, H, h, fun φ0 H0 w0 φ a w Q _ hI hF hq => hq φ a w hI hF rfl⟩
  | cons o l ih =>
    intro F H K r h
    unfold evalOps at h
    obtain ⟨go, hgo, h2⟩ := guardK_some h
    clear h
    rcases cond_some h2 with ⟨hg, h⟩ | ⟨hg, h⟩ <;> clear h2 <;> subst hg
    · replace h := pickSplit_some h
      obtain ⟨v, H1, h, hop⟩ := evalOp_ok ok hO h
      obtain ⟨F1, hp, h⟩ : ∃ F1, ((o.dst = none ∧ F1 = F) ∨ ∃ d, o.dst = some d ∧ d < F.length ∧ F1 = nset F d (some v)) ∧ evalOps E O fro ops l F1 H1 K = some r := by
        rcases putK_some h with ⟨h1, h3⟩ | ⟨d, h1, h2, h3⟩
        · exact ⟨F, .inl ⟨h1, rfl⟩, h3⟩
        · exact ⟨_, .inr ⟨d, h1, h2, rfl⟩, h3⟩
      obtain ⟨F', H', hK, hok⟩ := ih F1 H1 K r h
      refine ⟨F', H', hK, fun φ0 H0 w0 φ a w Q hl hI hF hq => ?_⟩
      unfold wpList
      rw [if_pos (hgo.wanted hF)]
      refine .inl (hop φ0 H0 w0 φ a w _ Q hl hI hF fun rv φ' w' he hI' hv => ?_)
      exact hok φ0 H0 w0 φ' _ w' Q hl hI' ((hF.ext he).put' hv hp) fun φ2 a2 w2 hI2 hF2 hd => hq φ2 a2 w2 hI2 hF2 (hd.trans (put_defers _ _ _))
    · obtain ⟨F1, hp, h⟩ : ∃ F1, ((o.dst = none ∧ F1 = F) ∨ ∃ d, o.dst = some d ∧ d < F.length ∧ F1 = nset F d (some (.tup []))) ∧ evalOps E O fro ops l F1 H K = some r := by
        rcases putK_some h with ⟨h1, h3⟩ | ⟨d, h1, h2, h3⟩
        · exact ⟨F, .inl ⟨h1, rfl⟩, h3⟩
        · exact ⟨_, .inr ⟨d, h1, h2, rfl⟩, h3⟩
      obtain ⟨F', H', hK, hok⟩ := ih F1 H K r h
      refine ⟨F', H', hK, fun φ0 H0 w0 φ a w Q hl hI hF hq => ?_⟩
      unfold wpList
      rw [if_neg (by rw [hgo.wanted hF]; exact fun e => by cases e)]
      have hv : RA φ (.tup []) undef := ⟨[], rfl, trivial⟩
      exact hok φ0 H0 w0 φ _ w Q hl hI (hF.put' hv hp) fun φ2 a2 w2 hI2 hF2 hd => hq φ2 a2 w2 hI2 hF2 (hd.trans (put_defers _ _ _))

/-! ## Code -/
def Ex.real : Ex → Exit
  | .normal => .normal
  | .exit n => .exit n
  | .ret => .ret

/-- From a frame and a heap on, code comes to an end, with another frame and heap. -/
def CodeOk (E : Env) (m : Nat) (c : Code) (F : Fr) (H : Hp E) (ex : Ex) (F' : Fr) (H' : Hp E) : Prop :=
  ∀ (φ0 : List PE) (H0 : Hp E) (w0 : World) (φ : List PE) (a : Act) (w : World) (Q : Exit → Act → World → Prop), φ0.length = H0.length → H0.length = m → Inv φ0 H0 w0 φ H w → RF φ F a.tmps →
    (∀ φ' a' w', Inv φ0 H0 w0 φ' H' w' → RF φ' F' a'.tmps → a'.defers = a.defers → Q ex.real a' w') → c.wp E.P Q a w

/-- The loops of a code, by the block around them. -/
def loopsOf : Code → List (Nat × Code)
  | .seq a b => loopsOf a ++ loopsOf b
  | .cond _ a b => loopsOf a ++ loopsOf b
  | .block id (.loop c) => [(id, c)]
  | .block _ c => loopsOf c
  | _ => []

def LpsOk (E : Env) (m : Nat) (L : Lps E) (ls : List (Nat × Code)) : Prop := ∀ p ∈ ls, ∀ {R : Type} (F : Fr) (H : Hp E) (K : Ex → Fr → Hp E → Option R) (r : R), L p.1 F H K = some r →
  ∃ ex F' H', K ex F' H' = some r ∧ CodeOk E m (.block p.1 (.loop p.2)) F H ex F' H'

theorem condK_some {c : Operand} {F : Fr} {K : Bool → Fr → Option R} {r : R} (h : condK c F K = some r) : ∃ b, K b F = some r ∧ ∀ (φ : List PE) (a : Act), RF φ F a.tmps → a.eval c = .bool b := by
  unfold condK at h
  split at h
  · rename_i t
    split at h
    · rename_i b hb
      have key : ∀ (φ : List PE) (a : Act), RF φ F a.tmps → a.eval (.tmp t) = .bool b := fun φ a hF => by
        obtain ⟨v, hv, hr⟩ := hF.2 t _ hb
        have hr : v = .bool b := hr
        subst hr
        simp only [Act.eval, Array.getD_eq_getD_getElem?, hv]
        rfl
      rcases cond_some h with ⟨hbt, h⟩ | ⟨hbf, h⟩
      · subst hbt; rw [nset_same hb] at h; exact ⟨true, h, key⟩
      · subst hbf; rw [nset_same hb] at h; exact ⟨false, h, key⟩
    · cases h
  · rename_i b
    exact ⟨b, h, fun _ _ _ => rfl⟩
  · cases h

def DrawOk (E : Env) : Prop := ∀ {R : Type} (m : Nat) (O : Orc E), OrcOk O → ∀ (id : Nat) (ops : Array Oper) (F : Fr) (H : Hp E) (K : Fr → Hp E → Option R) (r : R), evalDraw E O ops F H K = some r →
  ∃ F' H', K F' H' = some r ∧ CodeOk E m (.region id ops true) F H .normal F' H'

theorem evalCode_ok {m : Nat} (ok : EnvOk E) (hD : DrawOk E) {O : Orc E} (hO : OrcOk O) {L : Lps E} : ∀ (c : Code), LpsOk E m L (loopsOf c) → ∀ (F : Fr) (H : Hp E) (K : Ex → Fr → Hp E → Option R) (r : R), evalCode E O L c F H K = some r →
    ∃ ex F' H', K ex F' H' = some r ∧ CodeOk E m c F H ex F' H' := by
  intro c
  induction c with
  | skip =>
    intro _ F H K r h
    exact ⟨.normal, F, H, h, fun φ0 H0 w0 φ a w Q _ _ hI hF hq => wp_skip (hq φ a w hI hF rfl)⟩
  | label l =>
    intro _ F H K r h
    exact ⟨.normal, F, H, h, fun φ0 H0 w0 φ a w Q _ _ hI hF hq => wp_label (hq φ a w hI hF rfl)⟩
  | ret =>
    intro _ F H K r h
    exact ⟨.ret, F, H, h, fun φ0 H0 w0 φ a w Q _ _ hI hF hq => wp_ret (hq φ a w hI hF rfl)⟩
  | exit id =>
    intro _ F H K r h
    exact ⟨.exit id, F, H, h, fun φ0 H0 w0 φ a w Q _ _ hI hF hq => wp_exit (hq φ a w hI hF rfl)⟩
  | region id ops draw =>
    intro _ F H K r h
    cases draw with
    | false =>
      obtain ⟨F', H', hK, hok⟩ := evalOps_ok ok hO ops.toList F H _ r h
      exact ⟨.normal, F', H', hK, fun φ0 H0 w0 φ a w Q hl hm hI hF hq => wp_region_list (hok φ0 H0 w0 φ a w Q hl hI hF hq)⟩
    | true =>
      obtain ⟨F', H', hK, hok⟩ := hD m O hO id ops F H _ r h
      exact ⟨.normal, F', H', hK, hok⟩
  | seq a b iha ihb =>
    intro hL F H K r h
    obtain ⟨ex, F1, H1, h, ha⟩ := iha (fun p hp => hL p (List.mem_append_left _ hp)) F H _ r h
    cases ex with
    | normal =>
      obtain ⟨ex2, F2, H2, hK, hb⟩ := ihb (fun p hp => hL p (List.mem_append_right _ hp)) F1 H1 K r h
      refine ⟨ex2, F2, H2, hK, fun φ0 H0 w0 φ ac w Q hl hm hI hF hq => wp_seq (ha φ0 H0 w0 φ ac w _ hl hm hI hF fun φ' a' w' hI' hF' hd => ?_)⟩
      exact hb φ0 H0 w0 φ' a' w' Q hl hm hI' hF' fun φ2 a2 w2 hI2 hF2 hd2 => hq φ2 a2 w2 hI2 hF2 (hd2.trans hd)
    | exit n => exact ⟨.exit n, F1, H1, h, fun φ0 H0 w0 φ ac w Q hl hm hI hF hq => wp_seq (ha φ0 H0 w0 φ ac w _ hl hm hI hF fun φ' a' w' hI' hF' hd => hq φ' a' w' hI' hF' hd)⟩
    | ret => exact ⟨.ret, F1, H1, h, fun φ0 H0 w0 φ ac w Q hl hm hI hF hq => wp_seq (ha φ0 H0 w0 φ ac w _ hl hm hI hF fun φ' a' w' hI' hF' hd => hq φ' a' w' hI' hF' hd)⟩
  | cond c a b iha ihb =>
    intro hL F H K r h
    obtain ⟨t, h, hc⟩ := condK_some h
    cases t with
    | true =>
      obtain ⟨ex, F1, H1, hK, ha⟩ := iha (fun p hp => hL p (List.mem_append_left _ hp)) F H K r h
      exact ⟨ex, F1, H1, hK, fun φ0 H0 w0 φ ac w Q hl hm hI hF hq => wp_cond_true (hc φ ac hF) (ha φ0 H0 w0 φ ac w Q hl hm hI hF hq)⟩
    | false =>
      obtain ⟨ex, F1, H1, hK, hb⟩ := ihb (fun p hp => hL p (List.mem_append_right _ hp)) F H K r h
      exact ⟨ex, F1, H1, hK, fun φ0 H0 w0 φ ac w Q hl hm hI hF hq => wp_cond_false (hc φ ac hF) (hb φ0 H0 w0 φ ac w Q hl hm hI hF hq)⟩
  | block id c ih =>
    intro hL F H K r h
    by_cases hlp : ∃ b, c = .loop b
    · obtain ⟨b, rfl⟩ := hlp
      exact hL (id, b) (by simp [loopsOf]) F H K r h
    · have hls : loopsOf (.block id c) = loopsOf c := by
        cases c <;> first | rfl | exact absurd ⟨_, rfl⟩ hlp
      have hev : evalCode E O L (.block id c) F H K = evalCode E O L c F H fun ex F H => match ex with
        | .exit j => cond (Nat.beq j id) (K .normal F H) (K (.exit j) F H)
        | ex => K ex F H := by
        cases c <;> first | rfl | exact absurd ⟨_, rfl⟩ hlp
      rw [hev] at h
      rw [hls] at hL
      obtain ⟨ex, F1, H1, h, hb⟩ := ih hL F H _ r h
      cases ex with
      | normal => exact ⟨.normal, F1, H1, h, fun φ0 H0 w0 φ ac w Q hl hm hI hF hq => wp_block (hb φ0 H0 w0 φ ac w _ hl hm hI hF fun φ' a' w' hI' hF' hd => hq φ' a' w' hI' hF' hd)⟩
      | ret => exact ⟨.ret, F1, H1, h, fun φ0 H0 w0 φ ac w Q hl hm hI hF hq => wp_block (hb φ0 H0 w0 φ ac w _ hl hm hI hF fun φ' a' w' hI' hF' hd => hq φ' a' w' hI' hF' hd)⟩
      | exit j =>
        rcases cond_some h with ⟨hj, h2⟩ | ⟨hj, h2⟩
        · have hj : id = j := (Nat.eq_of_beq_eq_true hj).symm
          subst hj
          refine ⟨.normal, F1, H1, h2, fun φ0 H0 w0 φ ac w Q hl hm hI hF hq => wp_block (hb φ0 H0 w0 φ ac w _ hl hm hI hF fun φ' a' w' hI' hF' hd => ?_)⟩
          show Exit.inBlock id Q (.exit id) a' w'
          simp only [Exit.inBlock, if_true]
          exact hq φ' a' w' hI' hF' hd
        · have hj : ¬ j = id := fun e => by rw [e, Nat.beq_refl] at hj; cases hj
          refine ⟨.exit j, F1, H1, h2, fun φ0 H0 w0 φ ac w Q hl hm hI hF hq => wp_block (hb φ0 H0 w0 φ ac w _ hl hm hI hF fun φ' a' w' hI' hF' hd => ?_)⟩
          show Exit.inBlock id Q (.exit j) a' w'
          simp only [Exit.inBlock, hj, if_false]
          exact hq φ' a' w' hI' hF' hd
  | loop c ih => intro _ F H K r h; cases h
  | rangeFunc f p a b iha ihb => intro _ F H K r h; cases h
  | scope c ih => intro _ F H K r h; cases h
  | goto l => intro _ F H K r h; cases h
  | refuse why => intro _ F H K r h; cases h
end
end Go.Eng
