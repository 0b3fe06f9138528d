import Derived.Test.YtflmjaehnbnjnaaEngPa
set_option linter.all false
namespace Go.Eng
open Go Go.RowKit

section
variable {E : Env} {R : Type}

theorem nset_same {α : Type} : ∀ {l : List α} {n : Nat} {x : α}, nth l n = some x → nset l n x = l
  | [], _, _, h => by simp [nth] at h
  | a :: l, 0, x, h => by simp [nth] at h; subst h; rfl
  | a :: l, n + 1, x, h => by simp only [nset]; rw [nset_same (l := l) (n := n) h]

def GoIs (ops : Array Oper) (F : Fr) (g : Option (Nat × Bool)) (go : Bool) : Prop :=
  match g with
  | none => go = true
  | some (j, want) => ∃ t, dstOf ops j = some t ∧ ((∃ b, nth F t = some (some (.sc (.bool b))) ∧ go = (b == want)) ∨ (nth F t = some (some (.tup [])) ∧ go = false))

theorem guardK_some {ops : Array Oper} {F : Fr} {g : Option (Nat × Bool)} {K : Bool → Fr → Option R} {r : R} (h : guardK ops F g K = some r) : ∃ go, GoIs ops F g go ∧ K go F = some r := by
  unfold guardK at h
  split at h
  · exact ⟨true, rfl, h⟩
  · rename_i j want
    split at h
    · cases h
    · rename_i t ht
      split at h
      · rename_i b hb
        rcases cond_some h with ⟨hbt, h⟩ | ⟨hbf, h⟩
        · subst hbt
          rw [nset_same hb] at h
          exact ⟨want, ⟨t, ht, .inl ⟨true, hb, by cases want <;> rfl⟩⟩, h⟩
        · subst hbf
          rw [nset_same hb] at h
          exact ⟨!want, ⟨t, ht, .inl ⟨false, hb, by cases want <;> rfl⟩⟩, h⟩
      · rename_i hb
        exact ⟨false, ⟨t, ht, .inr ⟨hb, rfl⟩⟩, h⟩
      · cases h

theorem pickSplit_some {o : Oper} {F : Fr} {K : Fr → Option R} {r : R} (h : pickSplit o F K = some r) : K F = some r := by
  unfold pickSplit at h
  split at h
  · split at h
    · rename_i b hb
      rcases cond_some h with ⟨hbt, h⟩ | ⟨hbf, h⟩
      · subst hbt; rwa [nset_same hb] at h
      · subst hbf; rwa [nset_same hb] at h
    · cases h
  · exact h

theorem putK_some {F : Fr} {dst : Option Tmp} {v : AV} {K : Fr → Option R} {r : R} (h : putK F dst v K = some r) :
    (dst = none ∧ K F = some r) ∨ ∃ d, dst = some d ∧ d < F.length ∧ K (nset F d (some v)) = some r := by
  unfold putK at h
  split at h
  · exact .inl ⟨rfl, h⟩
  · rename_i d
    obtain ⟨hd, h⟩ := cond_none_right h
    exact .inr ⟨d, rfl, Nat.le_of_ble_eq_true hd, h⟩

theorem GoIs.wanted {ops : Array Oper} {F : Fr} {o : Oper} {go : Bool} (h : GoIs ops F o.guard go) {φ : List PE} {tmps : Array Value} (hF : RF φ F tmps) : Region.wanted o (yielded ops tmps) = go := by
  unfold GoIs at h
  unfold Region.wanted
  split at h
  · rename_i hg; rw [hg]; exact h.symm
  · rename_i j want hg
    rw [hg]
    obtain ⟨t, ht, h⟩ := h
    have hdst : (ops[j]?).bind (·.dst) = some t := by
      unfold dstOf at ht
      rw [nth_eq] at ht
      simpa using ht
    simp only [yielded, hdst, Option.bind_some]
    rcases h with ⟨b, hb, rfl⟩ | ⟨hb, rfl⟩
    · obtain ⟨v, hv, hr⟩ := hF.2 t _ hb
      have hr : v = .bool b := hr
      subst hr
      rw [hv]
      cases b <;> cases want <;> rfl
    · obtain ⟨v, hv, cs, rfl, hc⟩ := hF.2 t _ hb
      rw [hv]
      rfl

def OpsOk (E : Env) (ops : Array Oper) (l : List Oper) (F : Fr) (H : Hp E) (F' : Fr) (H' : Hp E) : Prop :=
  ∀ (φ0 : List PE) (H0 : Hp E) (w0 : World) (φ : List PE) (a : Act) (w : World) (Q : Exit → Act → World → Prop), φ0.length = H0.length → Inv φ0 H0 w0 φ H w → RF φ F a.tmps →
    (∀ φ' a' w', Inv φ0 H0 w0 φ' H' w' → RF φ' F' a'.tmps → a'.defers = a.defers → (∀ t, (∀ o ∈ l, o.dst ≠ some t) → a'.tmps[t]? = a.tmps[t]?) → Q .normal a' w') → wpList E.P ops Q l a w

theorem put_tmps {a : Act} {d : Option Tmp} {v : Value} {t : Tmp} (h : d ≠ some t) : (a.put d v).tmps[t]? = a.tmps[t]? := by
  cases d with
  | none => rfl
  | some d =>
    have hne : d ≠ t := fun e => h (by rw [e])
    simp only [Act.put, Array.getElem?_setIfInBounds_ne hne]

theorem put_defers (a : Act) (d : Option Tmp) (v : Value) : (a.put d v).defers = a.defers := by cases d <;> rfl

theorem RF.put' {φ : List PE} {F F' : Fr} {a : Act} {dst : Option Tmp} {av : AV} {v : Value} (h : RF φ F a.tmps) (hv : RA φ av v) (hp : (dst = none ∧ F' = F) ∨ ∃ d, dst = some d ∧ d < F.length ∧ F' = nset F d (some av)) :
    RF φ F' (a.put dst v).tmps := by
  rcases hp with ⟨rfl, rfl⟩ | ⟨d, rfl, hd, rfl⟩
  · exact h
  · exact h.put hv hd

theorem evalOps_ok (ok : EnvOk E) {O : Orc E} (hO : OrcOk O) {fro : Bool} {ops : Array Oper} : ∀ (l : List Oper) (F : Fr) (H : Hp E) (K : Fr → Hp E → Option R) (r : R), evalOps E O fro ops l F H K = some r →
    ∃ F' H', K F' H' = some r ∧ OpsOk E ops l F H F' H' := by
  intro l
  induction l with
  | nil =>
    intro F H K r h
    exact ⟨F, H, h, fun φ0 H0 w0 φ a w Q _ hI hF hq => hq φ a w hI hF rfl (fun _ _ => rfl)⟩
  | cons o l ih =>
    intro F H K r h
    unfold evalOps at h
    obtain ⟨go, hgo, h2⟩ := guardK_some h
    clear h
    rcases cond_some h2 with ⟨hg, h⟩ | ⟨hg, h⟩ <;> clear h2 <;> subst hg
    · replace h := pickSplit_some h
      obtain ⟨v, H1, h, hop⟩ := evalOp_ok ok hO h
      obtain ⟨F1, hp, h⟩ : ∃ F1, ((o.dst = none ∧ F1 = F) ∨ ∃ d, o.dst = some d ∧ d < F.length ∧ F1 = nset F d (some v)) ∧ evalOps E O fro ops l F1 H1 K = some r := by
        rcases putK_some h with ⟨h1, h3⟩ | ⟨d, h1, h2, h3⟩
        · exact ⟨F, .inl ⟨h1, rfl⟩, h3⟩
        · exact ⟨_, .inr ⟨d, h1, h2, rfl⟩, h3⟩
      obtain ⟨F', H', hK, hok⟩ := ih F1 H1 K r h
      refine ⟨F', H', hK, fun φ0 H0 w0 φ a w Q hl hI hF hq => ?_⟩
      unfold wpList
      rw [if_pos (hgo.wanted hF)]
      refine .inl (hop φ0 H0 w0 φ a w _ Q hl hI hF fun rv φ' w' he hI' hv => ?_)
      exact hok φ0 H0 w0 φ' _ w' Q hl hI' ((hF.ext he).put' hv hp) fun φ2 a2 w2 hI2 hF2 hd hkp => hq φ2 a2 w2 hI2 hF2 (hd.trans (put_defers _ _ _)) fun t ht => (hkp t fun o' ho' => ht o' (List.mem_cons_of_mem _ ho')).trans (put_tmps (ht o List.mem_cons_self))
    · obtain ⟨F1, hp, h⟩ : ∃ F1, ((o.dst = none ∧ F1 = F) ∨ ∃ d, o.dst = some d ∧ d < F.length ∧ F1 = nset F d (some (.tup []))) ∧ evalOps E O fro ops l F1 H K = some r := by
        rcases putK_some h with ⟨h1, h3⟩ | ⟨d, h1, h2, h3⟩
        · exact ⟨F, .inl ⟨h1, rfl⟩, h3⟩
        · exact ⟨_, .inr ⟨d, h1, h2, rfl⟩, h3⟩
      obtain ⟨F', H', hK, hok⟩ := ih F1 H K r h
      refine ⟨F', H', hK, fun φ0 H0 w0 φ a w Q hl hI hF hq => ?_⟩
      unfold wpList
      rw [if_neg (by rw [hgo.wanted hF]; exact fun e => by cases e)]
      have hv : RA φ (.tup []) undef := ⟨[], rfl, trivial⟩
      exact hok φ0 H0 w0 φ _ w Q hl hI (hF.put' hv hp) fun φ2 a2 w2 hI2 hF2 hd hkp => hq φ2 a2 w2 hI2 hF2 (hd.trans (put_defers _ _ _)) fun t ht => (hkp t fun o' ho' => ht o' (List.mem_cons_of_mem _ ho')).trans (put_tmps (ht o List.mem_cons_self))

def Ex.real : Ex → Exit
  | .normal => .normal
  | .exit n => .exit n
  | .goto n => .goto n
  | .ret => .ret

def CodeOk (E : Env) (m : Nat) (c : Code) (F : Fr) (H : Hp E) (ex : Ex) (F' : Fr) (H' : Hp E) : Prop :=
  ∀ (φ0 : List PE) (H0 : Hp E) (w0 : World) (φ : List PE) (a : Act) (w : World) (Q : Exit → Act → World → Prop), φ0.length = H0.length → H0.length = m → Inv φ0 H0 w0 φ H w → RF φ F a.tmps →
    (∀ φ' a' w', Inv φ0 H0 w0 φ' H' w' → RF φ' F' a'.tmps → a'.defers = a.defers → (plainC c = true → ∀ t, t ∉ wrC c → a'.tmps[t]? = a.tmps[t]?) → Q ex.real a' w') → c.wp E.P Q a w

def loopsOf : Code → List (Nat × Code)
  | .seq a b => loopsOf a ++ loopsOf b
  | .cond _ a b => loopsOf a ++ loopsOf b
  | .block id (.loop c) => [(id, c)]
  | .block _ c => loopsOf c
  | _ => []

def LpsOk (E : Env) (m : Nat) (L : Lps E) (ls : List (Nat × Code)) : Prop := ∀ p ∈ ls, ∀ {R : Type} (F : Fr) (H : Hp E) (K : Ex → Fr → Hp E → Option R) (r : R), L p.1 F H K = some r →
  ∃ ex F' H', K ex F' H' = some r ∧ CodeOk E m (.block p.1 (.loop p.2)) F H ex F' H'

theorem condK_some {c : Operand} {F : Fr} {K : Bool → Fr → Option R} {r : R} (h : condK c F K = some r) : ∃ b, K b F = some r ∧ ∀ (φ : List PE) (a : Act), RF φ F a.tmps → a.eval c = .bool b := by
  unfold condK at h
  split at h
  · rename_i t
    split at h
    · rename_i b hb
      have key : ∀ (φ : List PE) (a : Act), RF φ F a.tmps → a.eval (.tmp t) = .bool b := fun φ a hF => by
        obtain ⟨v, hv, hr⟩ := hF.2 t _ hb
        have hr : v = .bool b := hr
        subst hr
        simp only [Act.eval, Array.getD_eq_getD_getElem?, hv]
        rfl
      rcases cond_some h with ⟨hbt, h⟩ | ⟨hbf, h⟩
      · subst hbt; rw [nset_same hb] at h; exact ⟨true, h, key⟩
      · subst hbf; rw [nset_same hb] at h; exact ⟨false, h, key⟩
    · cases h
  · rename_i b
    exact ⟨b, h, fun _ _ _ => rfl⟩
  · cases h

def RegOk (E : Env) (m id : Nat) (ops : Array Oper) (F : Fr) (H : Hp E) (F' : Fr) (H' : Hp E) : Prop :=
  ∀ (φ0 : List PE) (H0 : Hp E) (w0 : World) (φ : List PE) (a : Act) (w : World) (Q : Exit → Act → World → Prop), φ0.length = H0.length → H0.length = m → Inv φ0 H0 w0 φ H w → RF φ F a.tmps →
    (∀ φ' a' w', Inv φ0 H0 w0 φ' H' w' → RF φ' F' a'.tmps → a'.defers = a.defers → (∀ t, (∀ o ∈ ops.toList, o.dst ≠ some t) → a'.tmps[t]? = a.tmps[t]?) → Q .normal a' w') → (Code.region id ops true).wp E.P Q a w

def DrawOk (E : Env) : Prop := ∀ {R : Type} (m : Nat) (O : Orc E), OrcOk O → ∀ (id : Nat) (ws : List Nat) (ops : Array Oper) (F : Fr) (H : Hp E) (K : Fr → Hp E → Option R) (r : R), evalDraw E O ws ops F H K = some r →
  ∃ F' H', K F' H' = some r ∧ RegOk E m id ops F H F' H'

theorem mem_dstsOf {t : Tmp} (l : List Oper) (h : t ∉ dstsOf l) : ∀ o ∈ l, o.dst ≠ some t := by
  induction l with
  | nil => intro o ho; cases ho
  | cons o l ih =>
    intro x hx e
    have hd : dstsOf (o :: l) = (match o.dst with | some d => d :: dstsOf l | none => dstsOf l) := rfl
    rw [hd] at h
    rcases List.mem_cons.1 hx with rfl | hx
    · rw [e] at h
      exact h List.mem_cons_self
    · refine ih ?_ x hx e
      split at h
      · exact fun m => h (List.mem_cons_of_mem _ m)
      · exact h

def JOk (J : JT) : Prop := ∀ {A R : Type} (x : Option A) (K : A → Option R) (r : R), J.cut x K = some r → ∃ a, x = some a ∧ K a = some r

def RegDOk (E : Env) (m id : Nat) (dr : Bool) (ops : Array Oper) (F : Fr) (H : Hp E) (F' : Fr) (H' : Hp E) : Prop :=
  ∀ (φ0 : List PE) (H0 : Hp E) (w0 : World) (φ : List PE) (a : Act) (w : World) (Q : Exit → Act → World → Prop), φ0.length = H0.length → H0.length = m → Inv φ0 H0 w0 φ H w → RF φ F a.tmps →
    (∀ φ' a' w', Inv φ0 H0 w0 φ' H' w' → RF φ' F' a'.tmps → a'.defers = a.defers → (∀ t, t ∉ dstsOf ops.toList → a'.tmps[t]? = a.tmps[t]?) → Q .normal a' w') → (Code.region id ops dr).wp E.P Q a w

theorem evalReg_ok (m : Nat) (ok : EnvOk E) (hD : DrawOk E) {O : Orc E} (hO : OrcOk O) (id : Nat) {dr : Bool} {ws : List Nat} {ops : Array Oper} {F : Fr} {H : Hp E} {K : Fr → Hp E → Option R} {r : R} (h : evalReg E O dr ws ops F H K = some r) :
    ∃ F' H', K F' H' = some r ∧ RegDOk E m id dr ops F H F' H' := by
  cases dr with
  | false =>
    obtain ⟨F', H', hK, hok⟩ := evalOps_ok ok hO ops.toList F H _ r h
    exact ⟨F', H', hK, fun φ0 H0 w0 φ a w Q hl hm hI hF hq => wp_region_list (hok φ0 H0 w0 φ a w Q hl hI hF fun φ' a' w' h1 h2 h3 h4 => hq φ' a' w' h1 h2 h3 fun t ht => h4 t (mem_dstsOf _ ht))⟩
  | true =>
    obtain ⟨F', H', hK, hok⟩ := hD m O hO id ws ops F H _ r h
    exact ⟨F', H', hK, fun φ0 H0 w0 φ a w Q hl hm hI hF hq => hok φ0 H0 w0 φ a w Q hl hm hI hF fun φ' a' w' h1 h2 h3 h4 => hq φ' a' w' h1 h2 h3 fun t ht => h4 t (mem_dstsOf _ ht)⟩

theorem Kd.pick_some {F : Fr} {t : Tmp} {k : Kd} {x : k.T} (h : k.pick F t = some x) : nth F t = some (some (.sc (k.sv x))) := by
  cases k with
  | b =>
    unfold Kd.pick at h
    dsimp only at h
    split at h
    · rename_i z hz; cases h; exact hz
    · cases h
  | i k =>
    unfold Kd.pick at h
    dsimp only at h
    split at h
    · rename_i k' n hz
      by_cases e : k = k'
      · subst e
        rw [decide_eq_true rfl] at h
        cases h; exact hz
      · rw [decide_eq_false e] at h; cases h
    · cases h
  | s =>
    unfold Kd.pick at h
    dsimp only at h
    split at h
    · rename_i z hz; cases h; exact hz
    · cases h

theorem RS.sv {φ φ' : List PE} {k : Kd} {x : k.T} {v : Value} (h : RS φ (k.sv x) v) : RS φ' (k.sv x) v := by
  cases k <;> exact h

theorem RF.put1 {φ φ' : List PE} {F F1 : Fr} {tmps : Array Value} (h : RF φ F tmps) (h1 : RF φ' F1 tmps) {t : Tmp} {k : Kd} {x : k.T} (hp : k.pick F1 t = some x) : RF φ (nset F t (some (.sc (k.sv x)))) tmps := by
  refine ⟨by rw [nset_length]; exact h.1, fun i av hi => ?_⟩
  rw [nth_nset] at hi
  split at hi
  · rename_i hc
    obtain ⟨rfl, _⟩ := hc
    cases hi
    obtain ⟨v, hv, hr⟩ := h1.2 i _ (Kd.pick_some hp)
    exact ⟨v, hv, RS.sv (φ := φ') hr⟩
  · exact h.2 i av hi

theorem RF.putJ1 {φ φ' : List PE} {F1 : Fr} {tmps : Array Value} (h1 : RF φ' F1 tmps) : ∀ (ds : List (Tmp × Kd)) (t : Tmp) (k : Kd) (x : JV1 k ds) (F : Fr), RF φ F tmps → pickJ1 F1 t k ds = some x → RF φ (putJ1 t k ds x F) tmps
  | [], t, k, x, F, h, hp => h.put1 h1 hp
  | d :: ds, t, k, x, F, h, hp => by
    simp only [pickJ1] at hp
    split at hp
    · rename_i y hy
      split at hp
      · rename_i z hz
        cases hp
        exact RF.putJ1 h1 ds d.1 d.2 z _ (h.put1 h1 hy) hz
      · cases hp
    · cases hp

theorem RF.putJ {φ φ' : List PE} {F F1 : Fr} {tmps : Array Value} (h : RF φ F tmps) (h1 : RF φ' F1 tmps) {ds : List (Tmp × Kd)} {x : JV ds} (hp : pickJ F1 ds = some x) : RF φ (putJ ds x F) tmps := by
  cases ds with
  | nil => exact h
  | cons d ds => exact RF.putJ1 h1 ds d.1 d.2 x F h hp

theorem RF.unset {φ : List PE} {tmps tmps' : Array Value} (hs : tmps'.size = tmps.size) : ∀ (ts : List Tmp) (F : Fr), F.length = tmps.size → (∀ t av, t ∉ ts → nth F t = some (some av) → ∃ v, tmps'[t]? = some v ∧ RA φ av v) → RF φ (unsetF ts F) tmps'
  | [], F, hl, h => ⟨by show F.length = _; rw [hl, hs], fun t av ht => h t av (fun m => by cases m) ht⟩
  | t :: ts, F, hl, h => RF.unset hs ts _ (by rw [nset_length]; exact hl) fun i av hi hn => by
      rw [nth_nset] at hn
      split at hn
      · cases hn
      · rename_i hc
        by_cases e : i = t
        · subst e
          have := nth_lt hn
          exact absurd ⟨rfl, this⟩ hc
        · exact h i av (fun m => by
            rcases List.mem_cons.1 m with m | m
            · exact e m
            · exact hi m) hn

theorem pickN_some {n : Nat} {ds : List (Tmp × Kd)} {ex : Ex} {F : Fr} {H : Hp E} {x : JV ds} (h : pickN E n ds ex F H = some x) : ex = .normal ∧ F.length = n ∧ pickJ F ds = some x := by
  unfold pickN at h
  split at h
  · obtain ⟨hn, h⟩ := cond_none_right h
    exact ⟨rfl, Nat.eq_of_beq_eq_true hn, h⟩
  · cases h

theorem plain_loops {c : Code} (h : plainC c = true) : loopsOf c = [] := by
  induction c with
  | seq a b iha ihb =>
    simp only [plainC, Bool.and_eq_true] at h
    simp only [loopsOf, iha h.1, ihb h.2, List.append_nil]
  | cond _ a b iha ihb =>
    simp only [plainC, Bool.and_eq_true] at h
    simp only [loopsOf, iha h.1, ihb h.2, List.append_nil]
  | block id c ih =>
    cases c with
    | loop b => cases h
    | _ => exact ih h
  | loop c => cases h
  | _ => rfl

theorem evalCode_ok (ok : EnvOk E) (hD : DrawOk E) {O : Orc E} (hO : OrcOk O) {L : Lps E} {J : JT} (hJ : JOk J) : ∀ (c : Code) {m : Nat}, LpsOk E m L (loopsOf c) → ∀ {R : Type} (F : Fr) (H : Hp E) (K : Ex → Fr → Hp E → Option R) (r : R), evalCode E O L J c F H K = some r →
    ∃ ex F' H', K ex F' H' = some r ∧ CodeOk E m c F H ex F' H' := by
  intro c
  induction c with
  | skip =>
    intro m _ R F H K r h
    exact ⟨.normal, F, H, h, fun φ0 H0 w0 φ a w Q _ _ hI hF hq => wp_skip (hq φ a w hI hF rfl fun _ _ _ => rfl)⟩
  | label l =>
    intro m _ R F H K r h
    exact ⟨.normal, F, H, h, fun φ0 H0 w0 φ a w Q _ _ hI hF hq => wp_label (hq φ a w hI hF rfl fun _ _ _ => rfl)⟩
  | ret =>
    intro m _ R F H K r h
    exact ⟨.ret, F, H, h, fun φ0 H0 w0 φ a w Q _ _ hI hF hq => wp_ret (hq φ a w hI hF rfl fun _ _ _ => rfl)⟩
  | goto l =>
    intro m _ R F H K r h
    exact ⟨.goto l, F, H, h, fun φ0 H0 w0 φ a w Q _ _ hI hF hq => wp_goto (hq φ a w hI hF rfl fun _ _ _ => rfl)⟩
  | exit id =>
    intro m _ R F H K r h
    exact ⟨.exit id, F, H, h, fun φ0 H0 w0 φ a w Q _ _ hI hF hq => wp_exit (hq φ a w hI hF rfl fun _ _ _ => rfl)⟩
  | region id ops draw =>
    intro m _ R F H K r h
    unfold evalCode at h
    split at h
    · obtain ⟨F', H', hK, hok⟩ := evalReg_ok m ok hD hO id h
      exact ⟨.normal, F', H', hK, fun φ0 H0 w0 φ a w Q hl hm hI hF hq => hok φ0 H0 w0 φ a w Q hl hm hI hF fun φ' a' w' h1 h2 h3 h4 => hq φ' a' w' h1 h2 h3 fun _ => h4⟩
    · rename_i ds hds
      obtain ⟨x, hx, hK⟩ := hJ _ _ _ h
      obtain ⟨F1, H1, hp, hok⟩ := evalReg_ok H.length ok hD hO id hx
      obtain ⟨_, hn, hp⟩ := pickN_some hp
      refine ⟨.normal, _, H, hK, fun φ0 H0 w0 φ a w Q hl hm hI hF hq => ?_⟩
      refine hok φ (roAll E H) w φ a w Q (by rw [roAll_length]; exact hI.rh.len) (roAll_length H) (Inv.refl hI.rh.roAll) hF fun φ' a' w' h1 h2 h3 h4 => ?_
      refine hq φ a' w' (hI.calm_back h1) (RF.putJ ?_ h2 hp) h3 fun _ => h4
      refine RF.unset (by rw [← h2.1, hn, hF.1]) _ _ hF.1 fun t av ht hn => ?_
      obtain ⟨v, hv, hr⟩ := hF.2 t av hn
      exact ⟨v, by rw [h4 t ht]; exact hv, hr⟩
  | seq a b iha ihb =>
    intro m hL R F H K r h
    unfold evalCode at h
    obtain ⟨ex, F1, H1, h, ha⟩ := iha (fun p hp => hL p (List.mem_append_left _ hp)) F H _ r h
    cases ex with
    | normal =>
      obtain ⟨ex2, F2, H2, hK, hb⟩ := ihb (fun p hp => hL p (List.mem_append_right _ hp)) F1 H1 K r h
      refine ⟨ex2, F2, H2, hK, fun φ0 H0 w0 φ ac w Q hl hm hI hF hq => wp_seq (ha φ0 H0 w0 φ ac w _ hl hm hI hF fun φ' a' w' hI' hF' hd hk => ?_)⟩
      exact hb φ0 H0 w0 φ' a' w' Q hl hm hI' hF' fun φ2 a2 w2 hI2 hF2 hd2 hk2 => hq φ2 a2 w2 hI2 hF2 (hd2.trans hd) fun hp t ht => by
        simp only [plainC, Bool.and_eq_true] at hp
        simp only [wrC, List.mem_append, not_or] at ht
        exact (hk2 hp.2 t ht.2).trans (hk hp.1 t ht.1)
    | exit n => exact ⟨.exit n, F1, H1, h, fun φ0 H0 w0 φ ac w Q hl hm hI hF hq => wp_seq (ha φ0 H0 w0 φ ac w _ hl hm hI hF fun φ' a' w' hI' hF' hd hk => hq φ' a' w' hI' hF' hd fun hp t ht => by
        simp only [plainC, Bool.and_eq_true] at hp
        simp only [wrC, List.mem_append, not_or] at ht
        exact hk hp.1 t ht.1)⟩
    | goto n => exact ⟨.goto n, F1, H1, h, fun φ0 H0 w0 φ ac w Q hl hm hI hF hq => wp_seq (ha φ0 H0 w0 φ ac w _ hl hm hI hF fun φ' a' w' hI' hF' hd hk => hq φ' a' w' hI' hF' hd fun hp t ht => by
        simp only [plainC, Bool.and_eq_true] at hp
        simp only [wrC, List.mem_append, not_or] at ht
        exact hk hp.1 t ht.1)⟩
    | ret => exact ⟨.ret, F1, H1, h, fun φ0 H0 w0 φ ac w Q hl hm hI hF hq => wp_seq (ha φ0 H0 w0 φ ac w _ hl hm hI hF fun φ' a' w' hI' hF' hd hk => hq φ' a' w' hI' hF' hd fun hp t ht => by
        simp only [plainC, Bool.and_eq_true] at hp
        simp only [wrC, List.mem_append, not_or] at ht
        exact hk hp.1 t ht.1)⟩
  | cond c a b iha ihb =>
    intro m hL R F H K r h
    unfold evalCode at h
    split at h
    · obtain ⟨t, h, hc⟩ := condK_some h
      cases t with
      | true =>
        obtain ⟨ex, F1, H1, hK, ha⟩ := iha (fun p hp => hL p (List.mem_append_left _ hp)) F H K r h
        exact ⟨ex, F1, H1, hK, fun φ0 H0 w0 φ ac w Q hl hm hI hF hq => wp_cond_true (hc φ ac hF) (ha φ0 H0 w0 φ ac w Q hl hm hI hF fun φ' a' w' h1 h2 h3 h4 => hq φ' a' w' h1 h2 h3 fun hp t ht => by
          simp only [plainC, Bool.and_eq_true] at hp
          simp only [wrC, List.mem_append, not_or] at ht
          exact h4 hp.1 t ht.1)⟩
      | false =>
        obtain ⟨ex, F1, H1, hK, hb⟩ := ihb (fun p hp => hL p (List.mem_append_right _ hp)) F H K r h
        exact ⟨ex, F1, H1, hK, fun φ0 H0 w0 φ ac w Q hl hm hI hF hq => wp_cond_false (hc φ ac hF) (hb φ0 H0 w0 φ ac w Q hl hm hI hF fun φ' a' w' h1 h2 h3 h4 => hq φ' a' w' h1 h2 h3 fun hp t ht => by
          simp only [plainC, Bool.and_eq_true] at hp
          simp only [wrC, List.mem_append, not_or] at ht
          exact h4 hp.2 t ht.2)⟩
    · rename_i ds hds
      obtain ⟨hpl, h⟩ := cond_none_right h
      simp only [Bool.and_eq_true] at hpl
      obtain ⟨x, hx, hK⟩ := hJ _ _ _ h
      refine ⟨.normal, _, H, hK, ?_⟩
      obtain ⟨t, hx, hc⟩ := condK_some hx
      have key : ∀ (c' : Code), wrC c' ⊆ wrC a ++ wrC b → plainC c' = true → ∀ ex F1 H1, pickN E F.length ds ex F1 H1 = some x → CodeOk E H.length c' F (roAll E H) ex F1 H1 →
          ∀ (φ0 : List PE) (H0 : Hp E) (w0 : World) (φ : List PE) (ac : Act) (w : World) (Q : Exit → Act → World → Prop), Inv φ0 H0 w0 φ H w → RF φ F ac.tmps →
            (∀ φ' a' w', Inv φ0 H0 w0 φ' H w' → RF φ' (putJ ds x (unsetF (wrC a ++ wrC b) F)) a'.tmps → a'.defers = ac.defers → (plainC (.cond c a b) = true → ∀ t, t ∉ wrC (.cond c a b) → a'.tmps[t]? = ac.tmps[t]?) → Q Exit.normal a' w') → c'.wp E.P Q ac w := by
        intro c' hw hpc ex F1 H1 hp hok φ0 H0 w0 φ ac w Q hI hF hq
        obtain ⟨rfl, hn, hp⟩ := pickN_some hp
        refine hok φ (roAll E H) w φ ac w Q (by rw [roAll_length]; exact hI.rh.len) (roAll_length H) (Inv.refl hI.rh.roAll) hF fun φ' a' w' h1 h2 h3 h4 => ?_
        have h4 : ∀ t, t ∉ wrC a ++ wrC b → a'.tmps[t]? = ac.tmps[t]? := fun t ht => h4 hpc t fun m => ht (hw m)
        refine hq φ a' w' (hI.calm_back h1) (RF.putJ ?_ h2 hp) h3 fun _ => h4
        refine RF.unset (by rw [← h2.1, hn, hF.1]) _ _ hF.1 fun t av ht hn => ?_
        obtain ⟨v, hv, hr⟩ := hF.2 t av hn
        exact ⟨v, by rw [h4 t ht]; exact hv, hr⟩
      cases t with
      | true =>
        obtain ⟨ex, F1, H1, hp, hok⟩ := iha (m := H.length) (fun p hp => by rw [plain_loops hpl.1] at hp; cases hp) F _ _ x hx
        exact fun φ0 H0 w0 φ ac w Q hl hm hI hF hq => wp_cond_true (hc φ ac hF) (key a (fun _ m => List.mem_append_left _ m) hpl.1 ex F1 H1 hp hok φ0 H0 w0 φ ac w Q hI hF hq)
      | false =>
        obtain ⟨ex, F1, H1, hp, hok⟩ := ihb (m := H.length) (fun p hp => by rw [plain_loops hpl.2] at hp; cases hp) F _ _ x hx
        exact fun φ0 H0 w0 φ ac w Q hl hm hI hF hq => wp_cond_false (hc φ ac hF) (key b (fun _ m => List.mem_append_right _ m) hpl.2 ex F1 H1 hp hok φ0 H0 w0 φ ac w Q hI hF hq)
  | block id c ih =>
    intro m hL R F H K r h
    by_cases hlp : ∃ b, c = .loop b
    · obtain ⟨b, rfl⟩ := hlp
      obtain ⟨ex, F', H', hK, hok⟩ := hL (id, b) (by simp [loopsOf]) F H K r h
      exact ⟨ex, F', H', hK, hok⟩
    · have hls : loopsOf (.block id c) = loopsOf c := by
        cases c <;> first | rfl | exact absurd ⟨_, rfl⟩ hlp
      have hpl : plainC (.block id c) = plainC c := by
        cases c <;> first | rfl | exact absurd ⟨_, rfl⟩ hlp
      have hev : evalCode E O L J (.block id c) F H K = evalCode E O L J c F H fun ex F H => match ex with
        | .exit j => cond (Nat.beq j id) (K .normal F H) (K (.exit j) F H)
        | ex => K ex F H := by
        cases c <;> first | rfl | exact absurd ⟨_, rfl⟩ hlp
      rw [hev] at h
      rw [hls] at hL
      obtain ⟨ex, F1, H1, h, hb⟩ := ih hL F H _ r h
      have hq' : ∀ {a a' : Act}, (plainC c = true → ∀ t, t ∉ wrC c → a'.tmps[t]? = a.tmps[t]?) → (plainC (.block id c) = true → ∀ t, t ∉ wrC (.block id c) → a'.tmps[t]? = a.tmps[t]?) := fun hk hp => hk (hpl ▸ hp)
      cases ex with
      | normal => exact ⟨.normal, F1, H1, h, fun φ0 H0 w0 φ ac w Q hl hm hI hF hq => wp_block (hb φ0 H0 w0 φ ac w _ hl hm hI hF fun φ' a' w' hI' hF' hd hk => hq φ' a' w' hI' hF' hd (hq' hk))⟩
      | goto l => exact ⟨.goto l, F1, H1, h, fun φ0 H0 w0 φ ac w Q hl hm hI hF hq => wp_block (hb φ0 H0 w0 φ ac w _ hl hm hI hF fun φ' a' w' hI' hF' hd hk => hq φ' a' w' hI' hF' hd (hq' hk))⟩
      | ret => exact ⟨.ret, F1, H1, h, fun φ0 H0 w0 φ ac w Q hl hm hI hF hq => wp_block (hb φ0 H0 w0 φ ac w _ hl hm hI hF fun φ' a' w' hI' hF' hd hk => hq φ' a' w' hI' hF' hd (hq' hk))⟩
      | exit j =>
        rcases cond_some h with ⟨hj, h2⟩ | ⟨hj, h2⟩
        · have hj : id = j := (Nat.eq_of_beq_eq_true hj).symm
          subst hj
          refine ⟨.normal, F1, H1, h2, fun φ0 H0 w0 φ ac w Q hl hm hI hF hq => wp_block (hb φ0 H0 w0 φ ac w _ hl hm hI hF fun φ' a' w' hI' hF' hd hk => ?_)⟩
          show Exit.inBlock id Q (.exit id) a' w'
          simp only [Exit.inBlock, if_true]
          exact hq φ' a' w' hI' hF' hd (hq' hk)
        · have hj : ¬ j = id := fun e => by rw [e, Nat.beq_refl] at hj; cases hj
          refine ⟨.exit j, F1, H1, h2, fun φ0 H0 w0 φ ac w Q hl hm hI hF hq => wp_block (hb φ0 H0 w0 φ ac w _ hl hm hI hF fun φ' a' w' hI' hF' hd hk => ?_)⟩
          show Exit.inBlock id Q (.exit j) a' w'
          simp only [Exit.inBlock, hj, if_false]
          exact hq φ' a' w' hI' hF' hd (hq' hk)
  | loop c ih => intro m _ R F H K r h; cases h
  | rangeFunc f p a b iha ihb => intro m _ R F H K r h; cases h
  | scope c ih => intro m _ R F H K r h; cases h
  | refuse why => intro m _ R F H K r h; cases h
end
end Go.Eng
