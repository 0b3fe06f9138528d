import Derived.Test.YtflmjaehnbnjnaaEngV
set_option linter.all false
namespace Go.Eng
open Go Go.RowKit

section
variable {E : Env} {R : Type}

abbrev Its (E : Env) := ∀ {R : Type}, Nat → List (Option AV) → Hp E → (Ex → List (Option AV) → Hp E → Option R) → Option R

def LI (IT : Its E) (m n : Nat) (sl : SlotT) : {R : Type} → Nat → Fr → Hp E → (Ex → Fr → Hp E → Option R) → Option R :=
  fun j F H K => cond (Nat.beq F.length n) (viewK m (slotsAt j sl).1 F H fun vs H => IT j vs H fun ex vs H => K ex (unview n (slotsAt j sl).2 vs) H) none

def iterStep (O : Orc E) (L : Lps E) (J : JT) (m n id : Nat) (slots oslots : List Nat) (c : Code) (again : List (Option AV) → Hp E → Option R) (K : Ex → List (Option AV) → Hp E → Option R) (vs : List (Option AV)) (H : Hp E) : Option R :=
  evalCode E O L J c (unview n slots vs) H fun ex F H => match ex with
    | .normal => cond (Nat.beq F.length n) (viewK m slots F H again) none
    | .exit j => cond (Nat.beq F.length n) (viewK m oslots F H fun vs H => K (cond (Nat.beq j id) .normal (.exit j)) vs H) none
    | .goto _ => none
    | .ret => cond (Nat.beq F.length n) (viewK m oslots F H fun vs H => K .ret vs H) none

theorem iterK_succ (O : Orc E) (L : Lps E) (J : JT) (m n id : Nat) (slots oslots : List Nat) (c : Code) (k : Nat) (vs : List (Option AV)) (H : Hp E) (K : Ex → List (Option AV) → Hp E → Option R) :
    iterK O L J m n id slots oslots c (k + 1) vs H K = iterStep O L J m n id slots oslots c (fun vs H => iterK O L J m n id slots oslots c k vs H K) K vs H := rfl

def ItOk (IT : Its E) (m n : Nat) (sl : SlotT) (ls : List (Nat × Code)) : Prop := ∀ p ∈ ls, ∀ {R : Type} (vs : List (Option AV)) (H : Hp E) (K : Ex → List (Option AV) → Hp E → Option R) (r : R),
  IT p.1 vs H K = some r → ∃ ex vs' H', K ex vs' H' = some r ∧ ∃ k, RoundsAt E m p.1 p.2 (unview n (slotsAt p.1 sl).1 vs) H ex (unview n (slotsAt p.1 sl).2 vs') H' k

theorem LI_ok (ok : EnvOk E) {IT : Its E} {m n : Nat} {sl : SlotT} {ls : List (Nat × Code)} (h : ItOk IT m n sl ls) : LpsOk E m (fun {R} => LI IT m n sl (R := R)) ls := by
  intro p hp R F H K r e
  unfold LI at e
  obtain ⟨hn, e⟩ := cond_none_right e
  have hn := Nat.eq_of_beq_eq_true hn
  obtain ⟨vs, H1, e, hv⟩ := viewK_ok ok e
  rw [hn] at hv
  obtain ⟨ex, vs', H', hK, k, hr⟩ := h p hp vs H1 _ r e
  refine ⟨ex, _, H', hK, fun φ0 H0 w0 φ a w Q hl hm hI hF hq => ?_⟩
  obtain ⟨φ1, hI1, hF1⟩ := hv φ0 H0 w0 φ w a.tmps hl hm hI hF
  exact wp_block (wp_loop_rounds k (hr φ0 H0 w0 φ1 a w Q hl hm hI1 hF1 fun φ' a' w' h1 h2 h3 => hq φ' a' w' h1 h2 h3 fun h => by cases h))

theorem ItOk.sub {IT : Its E} {m n : Nat} {sl : SlotT} {ls ls' : List (Nat × Code)} (h : ItOk IT m n sl ls) (hs : ∀ p ∈ ls', p ∈ ls) : ItOk IT m n sl ls' := fun p hp => h p (hs p hp)

def noIt : Its E := fun {_} _ _ _ _ => none

def addIt (id : Nat) (o : ∀ {R : Type}, List (Option AV) → Hp E → (Ex → List (Option AV) → Hp E → Option R) → Option R) (IT : Its E) : Its E :=
  fun {R} j vs H K => cond (Nat.beq j id) (o (R := R) vs H K) (IT j vs H K)

theorem noIt_ok {m n : Nat} {sl : SlotT} : ItOk (noIt (E := E)) m n sl [] := fun _ h => by cases h

theorem addIt_ok (ok : EnvOk E) {O : Orc E} (hO : OrcOk O) {J : JT} (hJ : JOk J) {IT : Its E} {m n : Nat} {sl : SlotT} {id : Nat} {c : Code} {ls : List (Nat × Code)} {o : ∀ {R : Type}, List (Option AV) → Hp E → (Ex → List (Option AV) → Hp E → Option R) → Option R}
    (hIT : ItOk IT m n sl ls) (hid : ∀ p ∈ ls, Nat.beq p.1 id = false) (hin : ∀ p ∈ loopsOf c, p ∈ ls)
    (h : ∀ {R : Type} (vs : List (Option AV)) (H : Hp E) (K : Ex → List (Option AV) → Hp E → Option R) (r : R), o vs H K = some r → ∃ k, iterK O (fun {R} => LI IT m n sl (R := R)) J m n id (slotsAt id sl).1 (slotsAt id sl).2 c k vs H K = some r) :
    ItOk (addIt id o IT) m n sl ((id, c) :: ls) := by
  intro p hp R vs H K r e
  unfold addIt at e
  dsimp only at e
  rcases List.mem_cons.1 hp with rfl | hp
  · simp only [Nat.beq_refl, cond_true] at e
    obtain ⟨k, hk⟩ := h vs H K r e
    obtain ⟨ex, vs', H', hK, hr⟩ := iterK_ok ok hO hJ (LI_ok ok (hIT.sub hin)) k vs H K r hk
    exact ⟨ex, vs', H', hK, k, hr⟩
  · rw [hid p hp, cond_false] at e
    exact hIT p hp vs H K r e

def jn (reg cnd : List (Nat × List (Tmp × Kd))) (wr : List (Nat × List Nat)) : JT := ⟨reg, cnd, wr, fun x K => oK x K⟩

theorem jn_ok (reg cnd : List (Nat × List (Tmp × Kd))) (wr : List (Nat × List Nat)) : JOk (jn reg cnd wr) := fun x K r h => by
  obtain ⟨a, h1, h2⟩ := oK_some (x := x) (K := K) h
  exact ⟨a, h1, h2⟩

def runFnI (O : Orc E) (IT : Its E) (sl : SlotT) (J : JT) (fn : Func) (args : List AV) (H : Hp E) (K : AV → Hp E → Option R) : Option R :=
  match fn.body with
  | none => none
  | some c => cond (Nat.ble args.length fn.ntmps)
      (evalTop O (fun {R} => LI IT H.length fn.ntmps sl (R := R)) J c (args.map some ++ List.replicate (fn.ntmps - args.length) (some (.tup []))) H fun ex F H' => match ex with
        | .exit _ => none
        | .goto _ => none
        | _ => resK E H' F fn.results.toList [] fun l => oK (resAV l) fun v => sweepVK H.length [some v] H' fun vs H' => match vs with
          | [some v] => K v H'
          | _ => none) none

def bodyOf (fn : Func) : Code := match fn.body with
  | some c => c
  | none => .skip

theorem runFnI_ok (ok : EnvOk E) {O : Orc E} (hO : OrcOk O) {J : JT} (hJ : JOk J) {IT : Its E} {sl : SlotT} {f : FuncId} {fn : Func} (hf : E.P.funcs[f]? = some fn) (hname : (fn.name == "runtime.NumGoroutine") = false)
    {args : List AV} {H : Hp E} (hIT : ItOk IT H.length fn.ntmps sl (loopsOf (bodyOf fn))) {K : AV → Hp E → Option R} {r : R} (h : runFnI O IT sl J fn args H K = some r) : ∃ v H', K v H' = some r ∧ Sim E f args H v H' := by
  unfold runFnI at h
  split at h
  · cases h
  rename_i c hb
  obtain ⟨hck, h⟩ := cond_none_right h
  have hbody : bodyOf fn = c := by unfold bodyOf; rw [hb]
  rw [hbody] at hIT
  exact fnEnd_ok ok hO hf hname hb hJ (Nat.le_of_ble_eq_true hck) (LI_ok ok hIT) h

def body (fn : Func) (id : Nat) : Code := (lookC id (allLoops (bodyOf fn))).getD .skip

def lsB (fn : Func) (ids : List Nat) : List (Nat × Code) := ids.map fun i => (i, body fn i)

theorem lsB_mem {fn : Func} {a b : List Nat} (h : a.all (fun i => b.any (Nat.beq i)) = true) : ∀ p ∈ lsB fn a, p ∈ lsB fn b := by
  intro p hp
  obtain ⟨i, hi, rfl⟩ := List.mem_map.1 hp
  obtain ⟨j, hj, e⟩ := List.any_eq_true.1 (List.all_eq_true.1 h i hi)
  rw [Nat.eq_of_beq_eq_true e]
  exact List.mem_map.2 ⟨j, hj, rfl⟩

theorem lsB_ne {fn : Func} {a : List Nat} {id : Nat} (h : a.all (fun i => !(Nat.beq i id)) = true) : ∀ p ∈ lsB fn a, Nat.beq p.1 id = false := by
  intro p hp
  obtain ⟨i, hi, rfl⟩ := List.mem_map.1 hp
  simpa using List.all_eq_true.1 h i hi

theorem addItB_ok (ok : EnvOk E) {O : Orc E} (hO : OrcOk O) {J : JT} (hJ : JOk J) {IT : Its E} {m n : Nat} {sl : SlotT} {fn : Func} {id : Nat} {ids inner : List Nat} {o : ∀ {R : Type}, List (Option AV) → Hp E → (Ex → List (Option AV) → Hp E → Option R) → Option R}
    (hIT : ItOk IT m n sl (lsB fn ids)) (hid : ids.all (fun i => !(Nat.beq i id)) = true) (hl : loopsOf (body fn id) = lsB fn inner) (hin : inner.all (fun i => ids.any (Nat.beq i)) = true)
    (h : ∀ {R : Type} (vs : List (Option AV)) (H : Hp E) (K : Ex → List (Option AV) → Hp E → Option R) (r : R), o vs H K = some r → ∃ k, iterK O (fun {R} => LI IT m n sl (R := R)) J m n id (slotsAt id sl).1 (slotsAt id sl).2 (body fn id) k vs H K = some r) :
    ItOk (addIt id o IT) m n sl (lsB fn (id :: ids)) :=
  addIt_ok ok hO hJ hIT (lsB_ne hid) (fun p hp => lsB_mem hin p (hl ▸ hp)) h

theorem addNoneB_ok {IT : Its E} {m n : Nat} {sl : SlotT} {fn : Func} {id : Nat} {ids : List Nat} (hIT : ItOk IT m n sl (lsB fn ids)) (hid : ids.all (fun i => !(Nat.beq i id)) = true) :
    ItOk (addIt id (fun {R} _ _ _ => (none : Option R)) IT) m n sl (lsB fn (id :: ids)) := by
  intro p hp R vs H K r e
  unfold addIt at e
  dsimp only at e
  rcases List.mem_cons.1 hp with rfl | hp
  · simp only [Nat.beq_refl, cond_true] at e; cases e
  · rw [lsB_ne hid p hp, cond_false] at e
    exact hIT p hp vs H K r e

theorem fnB_ok (ok : EnvOk E) {O : Orc E} (hO : OrcOk O) {J : JT} (hJ : JOk J) {IT : Its E} {sl : SlotT} {f : FuncId} {fn : Func} (hf : E.P.funcs[f]? = some fn) (hname : (fn.name == "runtime.NumGoroutine") = false)
    {args : List AV} {H : Hp E} {ids top : List Nat} (hIT : ItOk IT H.length fn.ntmps sl (lsB fn ids)) (hl : loopsOf (bodyOf fn) = lsB fn top) (htop : top.all (fun i => ids.any (Nat.beq i)) = true)
    {K : AV → Hp E → Option R} {r : R} (h : runFnI O IT sl J fn args H K = some r) : ∃ v H', K v H' = some r ∧ Sim E f args H v H' :=
  runFnI_ok ok hO hJ hf hname (by rw [hl]; exact hIT.sub (lsB_mem htop)) h
end
end Go.Eng
