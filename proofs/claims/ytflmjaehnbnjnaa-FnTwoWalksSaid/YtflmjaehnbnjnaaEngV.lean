import Derived.Test.YtflmjaehnbnjnaaEngU
import Derived.Test.YtflmjaehnbnjnaaEngP2
set_option linter.all false
namespace Go.Eng
open Go Go.RowKit

section
variable {E : Env} {R : Type}

def resStep (tmps : Array Value) : ResultVar → Sem Value
  | .tmp t => pure (tmps.getD t undef)
  | .cell a t => do loadVar t (← asAddr (tmps.getD a undef))

theorem results_eq (fn : Func) (tmps : Array Value) (P : Program) (w : World) (vs : List Value) (h : (fn.results.toList.mapM (resStep tmps)).run P w = .ok vs w) :
    (results fn tmps).run P w = .ok (if h : vs.toArray.size = 1 then vs.toArray[0] else .tuple vs.toArray) w := by
  unfold results
  rw [Array.mapM_eq_mapM_toList]
  have : (fun x => match x with | ResultVar.tmp t => pure (tmps.getD t undef) | ResultVar.cell a t => do loadVar t (← asAddr (tmps.getD a undef))) = resStep tmps := by
    funext x; cases x <;> rfl
  simp only [Sem.run_bind, map_eq_pure_bind]
  erw [this, h]
  rfl

theorem tmp_getD {φ : List PE} {F : Fr} {tmps : Array Value} (hF : RF φ F tmps) {t : Tmp} {av : AV} (h : (nth F t).getD none = some av) : ∃ v, tmps.getD t undef = v ∧ RA φ av v := by
  have h1 : nth F t = some (some av) := by
    cases hx : nth F t with
    | none => rw [hx] at h; cases h
    | some x => rw [hx] at h; simp at h; rw [h]
  obtain ⟨v, hv, hr⟩ := hF.2 t av h1
  exact ⟨v, by rw [Array.getD_eq_getD_getElem?, hv]; rfl, hr⟩

theorem resK_ok (ok : EnvOk E) {H : Hp E} {F : Fr} : ∀ (l : List ResultVar) (acc : List (Bool × List SV)) (K : List (Bool × List SV) → Option R) (r : R), resK E H F l acc K = some r →
    ∃ xs, K (acc.reverse ++ xs) = some r ∧ ∀ (φ : List PE) (w : World) (tmps : Array Value), RH φ H w → RF φ F tmps → ∃ vs, (l.mapM (resStep tmps)).run E.P w = .ok vs w ∧ All2 (RC φ) xs vs := by
  intro l
  induction l with
  | nil => intro acc K r h; exact ⟨[], by unfold resK at h; simpa using h, fun φ w tmps _ _ => ⟨[], rfl, trivial⟩⟩
  | cons x l ih =>
    intro acc K r h
    have glue : ∀ (c : Bool × List SV), resK E H F l (c :: acc) K = some r → (∀ (φ : List PE) (w : World) (tmps : Array Value), RH φ H w → RF φ F tmps → ∃ v, (resStep tmps x).run E.P w = .ok v w ∧ RC φ c v) →
        ∃ xs, K (acc.reverse ++ xs) = some r ∧ ∀ (φ : List PE) (w : World) (tmps : Array Value), RH φ H w → RF φ F tmps → ∃ vs, ((x :: l).mapM (resStep tmps)).run E.P w = .ok vs w ∧ All2 (RC φ) xs vs := fun c h hc => by
      obtain ⟨xs, hK, hxs⟩ := ih (c :: acc) K r h
      refine ⟨c :: xs, by simpa using hK, fun φ w tmps hr hF => ?_⟩
      obtain ⟨v, hv, hvc⟩ := hc φ w tmps hr hF
      obtain ⟨vs, hvs, hall⟩ := hxs φ w tmps hr hF
      refine ⟨v :: vs, ?_, hvc, hall⟩
      rw [List.mapM_cons]
      simp only [Sem.run_bind, hv, Result.andThen_ok, hvs]
      rfl
    cases x with
    | tmp t =>
      unfold resK at h
      split at h
      · rename_i v hv
        refine glue _ h fun φ w tmps hr hF => ?_
        obtain ⟨rv, h1, h2⟩ := tmp_getD hF hv
        exact ⟨rv, by rw [← h1]; rfl, v, rfl, h2⟩
      · rename_i v hv
        refine glue _ h fun φ w tmps hr hF => ?_
        obtain ⟨rv, h1, h2⟩ := tmp_getD hF hv
        exact ⟨rv, by rw [← h1]; rfl, h2⟩
      · cases h
    | cell a t =>
      unfold resK at h
      split at h
      · rename_i id row fld hp
        obtain ⟨v, hK, hnt, hq⟩ := loadK_ok ok h
        have hload : ∀ (φ : List PE) (w : World) (tmps : Array Value), RH φ H w → RF φ F tmps → ∃ rv, (resStep tmps (.cell a t)).run E.P w = .ok rv w ∧ RA φ v rv := fun φ w tmps hr hF => by
          obtain ⟨pv, h1, h2⟩ := tmp_getD hF hp
          obtain ⟨rv, h3, h4⟩ := hq φ w pv hr h2
          refine ⟨rv, ?_, h4⟩
          show (do loadVar t (← asAddr (tmps.getD a undef)) : Sem Value).run E.P w = _
          rw [h1]
          have h2 : RP φ id row fld pv := h2
          have halive : ∃ he, nth H id = some (some he) := by
            unfold loadK at h
            obtain ⟨_, _, h⟩ := oK_some h
            unfold cellsK at h
            split at h
            · rename_i he hh; exact ⟨he, hh⟩
            · cases h
          obtain ⟨he, hh⟩ := halive
          obtain ⟨L, _, _, rfl⟩ := h2.loc hr hh
          simpa [Instr.loadAt, Instr.sureAddr, asAddr] using h3
        cases v with
        | sc v => exact glue (false, [v]) hK fun φ w tmps hr hF => let ⟨rv, h1, h2⟩ := hload φ w tmps hr hF; ⟨rv, h1, v, rfl, h2⟩
        | agg v => exact glue (true, v) hK fun φ w tmps hr hF => let ⟨rv, h1, h2⟩ := hload φ w tmps hr hF; ⟨rv, h1, h2⟩
        | tup l => exact absurd rfl (hnt l)
      · cases h

theorem resTup {φ : List PE} {l : List (Bool × List SV)} {vs : List Value} (hl : All2 (RC φ) l vs) (hn : l.length ≠ 1) : RA φ (.tup l) (if h : vs.toArray.size = 1 then vs.toArray[0] else .tuple vs.toArray) := by
  rw [dif_neg (by simp; rw [← hl.length]; exact hn)]
  exact ⟨vs, rfl, hl⟩

theorem resAV_ok {φ : List PE} {l : List (Bool × List SV)} {v : AV} {vs : List Value} (h : resAV l = some v) (hl : All2 (RC φ) l vs) : RA φ v (if h : vs.toArray.size = 1 then vs.toArray[0] else .tuple vs.toArray) := by
  cases l with
  | nil => cases h; exact resTup hl (by simp)
  | cons x l =>
    cases l with
    | nil =>
      cases vs with
      | nil => exact hl.elim
      | cons y vs =>
        cases vs with
        | cons _ _ => exact hl.2.elim
        | nil =>
          obtain ⟨b, xs⟩ := x
          cases b with
          | true => cases h; exact hl.1
          | false =>
            obtain ⟨s, hs, hr⟩ := hl.1
            simp only at hs
            subst hs
            cases h
            exact hr
    | cons x2 l =>
      have : v = .tup (x :: x2 :: l) := by
        obtain ⟨b, xs⟩ := x
        rcases xs with _ | ⟨z, _ | ⟨z2, zs⟩⟩ <;> cases b <;> (cases h; rfl)
      subst this
      exact resTup hl (by simp)

theorem fnEnd_ok (ok : EnvOk E) {O : Orc E} (hO : OrcOk O) {f : FuncId} {fn : Func} (hf : E.P.funcs[f]? = some fn) (hname : (fn.name == "runtime.NumGoroutine") = false) {c : Code} (hb : fn.body = some c)
    {args : List AV} {H : Hp E} {L : Lps E} {J : JT} (hJ : JOk J) (hle : args.length ≤ fn.ntmps) (hL : LpsOk E H.length L (loopsOf c)) {K : AV → Hp E → Option R} {r : R}
    (h : (evalTop O L J c (args.map some ++ List.replicate (fn.ntmps - args.length) (some (.tup []))) H fun ex F H' => match ex with
        | .exit _ => none
        | .goto _ => none
        | _ => resK E H' F fn.results.toList [] fun l => oK (resAV l) fun v => sweepVK H.length [some v] H' fun vs H' => match vs with
          | [some v] => K v H'
          | _ => none) = some r) : ∃ v H', K v H' = some r ∧ Sim E f args H v H' := by
  obtain ⟨ex, F1, H1, h, hc⟩ := evalTop_ok ok (draw_ok ok) hO hJ c hL _ _ _ r h
  have hex : ∃ e, ex.real = e ∧ (e = .normal ∨ e = .ret) ∧ (resK E H1 F1 fn.results.toList [] fun l => oK (resAV l) fun v => sweepVK H.length [some v] H1 fun vs H' => match vs with
          | [some v] => K v H'
          | _ => none) = some r := by
    cases ex with
    | normal => exact ⟨_, rfl, .inl rfl, h⟩
    | ret => exact ⟨_, rfl, .inr rfl, h⟩
    | exit _ => cases h
    | goto _ => cases h
  obtain ⟨e, hexr, he, h⟩ := hex
  obtain ⟨xs, h, hres⟩ := resK_ok ok _ _ _ _ h
  obtain ⟨v, hv, h⟩ := oK_some h
  simp only [List.reverse_nil, List.nil_append] at hv
  obtain ⟨vs, H2, h, hvl, hsw⟩ := sweepVK_back ok h
  split at h
  · rename_i v2
    refine ⟨v2, H2, h, ⟨fn, hf, hname, by rw [hb]; rfl⟩, fun φ w av hav hr => ?_⟩
    refine calls_of_wp hf hb ?_
    have hI : Inv φ H w φ H w := .refl hr
    have hlen := hav.length
    have hF : RF φ (args.map some ++ List.replicate (fn.ntmps - args.length) (some (.tup []))) (av.toArray ++ Array.replicate (fn.ntmps - av.toArray.size) undef) := by
      refine ⟨by simp [hlen], fun i a hi => ?_⟩
      rw [nth_append] at hi
      split at hi
      · rename_i hlt
        rw [nth_map] at hi
        obtain ⟨a', ha', hae⟩ := Option.map_eq_some_iff.1 hi
        cases hae
        obtain ⟨v, hv, hra⟩ := hav.nth ha'
        refine ⟨v, ?_, hra⟩
        rw [Array.getElem?_append]
        simp only [List.length_map] at hlt
        rw [if_pos (by simp; omega)]
        simpa using hv
      · rename_i hge
        simp only [List.length_map] at hge hi
        have hlt := nth_lt hi
        have := nth_replicate hi
        cases this
        refine ⟨undef, ?_, [], rfl, trivial⟩
        rw [Array.getElem?_append]
        simp only [List.length_replicate] at hlt
        rw [if_neg (by simp; omega), Array.getElem?_replicate, if_pos (by simp; omega)]
    refine hc φ H w φ _ w _ hr.len rfl hI hF fun φ1 a1 w1 hI1 hF1 hd1 _ => ?_
    obtain ⟨rvs, hrun, hall⟩ := hres φ1 w1 a1.tmps hI1.rh hF1
    have hrv := resAV_ok hv hall
    obtain ⟨φ2, hI2, hv2⟩ := hsw φ H w φ1 w1 hr.len rfl hI1
    obtain ⟨av0, h0, hr0⟩ := hv2 0 v2 rfl
    cases h0
    have hpost : a1.defers = [] ∧ ∃ rv, (results fn a1.tmps).run E.P w1 = .ok rv w1 ∧ ∃ rv' φ', Ending.returned rv = .returned rv' ∧ Inv φ H w φ' H2 w1 ∧ RA φ' v2 rv' :=
      ⟨hd1, _, results_eq fn a1.tmps E.P w1 rvs hrun, _, φ2, rfl, hI2, hr0 _ hrv⟩
    rw [hexr]
    rcases he with rfl | rfl <;> exact hpost
  · cases h

theorem orcOk_none : OrcOk (fun {_} _ _ (_ : Hp E) _ => none) := fun _ _ _ _ _ h => by cases h
end
end Go.Eng
