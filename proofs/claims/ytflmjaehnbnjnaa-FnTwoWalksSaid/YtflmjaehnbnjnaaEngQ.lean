import Derived.Test.YtflmjaehnbnjnaaEngP
set_option linter.all false
namespace Go.Eng
set_option linter.all false
open Go Go.RowKit

section
variable {E : Env} {R : Type}

theorem maskF_length (ts : List Tmp) : ∀ (F : Fr) (i : Nat), (maskF ts i F).length = F.length
  | [], _ => rfl
  | _ :: F, i => by simp [maskF, maskF_length ts F]

theorem nth_maskF (ts : List Tmp) : ∀ (F : Fr) (i t : Nat) (av : AV), nth (maskF ts i F) t = some (some av) → (i + t) ∈ ts ∧ nth F t = some (some av)
  | [], _, _, _, h => by cases h
  | x :: F, i, 0, av, h => by
    simp only [maskF, nth] at h
    cases hb : ts.any (Nat.beq i) with
    | false => rw [hb] at h; cases h
    | true =>
      rw [hb] at h
      obtain ⟨t, ht, he⟩ := List.any_eq_true.1 hb
      have : i = t := Nat.eq_of_beq_eq_true he
      subst this
      exact ⟨by simpa using ht, h⟩
  | x :: F, i, t + 1, av, h => by
    have := nth_maskF ts F (i + 1) t av h
    exact ⟨by have h1 := this.1; rwa [show i + 1 + t = i + (t + 1) from by omega] at h1, this.2⟩

theorem nth_maskF_in (ts : List Tmp) : ∀ (F : Fr) (i t : Nat) (x : Option AV), (i + t) ∈ ts → nth F t = some x → nth (maskF ts i F) t = some x
  | [], _, _, _, _, h => by cases h
  | y :: F, i, 0, x, ht, h => by
    simp only [maskF, nth] at h ⊢
    have : ts.any (Nat.beq i) = true := List.any_eq_true.2 ⟨i, by simpa using ht, Nat.beq_refl i⟩
    rw [this]; exact h
  | y :: F, i, t + 1, x, ht, h => nth_maskF_in ts F (i + 1) t x (by rwa [show i + 1 + t = i + (t + 1) from by omega]) h

def putF (F : Fr) (dst : Option Tmp) (v : AV) : Fr :=
  match dst with
  | none => F
  | some d => nset F d (some v)

@[simp] theorem putF_length (F : Fr) (dst : Option Tmp) (v : AV) : (putF F dst v).length = F.length := by cases dst <;> simp [putF]

theorem putK_putF {F : Fr} {dst : Option Tmp} {v : AV} {K : Fr → Option R} {r : R} (h : putK F dst v K = some r) : K (putF F dst v) = some r ∧ ∀ d, dst = some d → d < F.length := by
  rcases putK_some h with ⟨rfl, h⟩ | ⟨d, rfl, hd, h⟩
  · exact ⟨h, fun d e => by cases e⟩
  · exact ⟨h, fun d' e => by cases e; exact hd⟩

inductive Before (ops : Array Oper) : Nat → Nat → Prop where
  | edge {j k : Nat} {o : Oper} : nth ops.toList k = some o → hasEdge o j = true → Before ops j k
  | step {j k m : Nat} {o : Oper} : nth ops.toList k = some o → hasEdge o m = true → Before ops j m → Before ops j k

theorem pathB_before {ops : Array Oper} {j : Nat} : ∀ (f : Nat) {k : Nat} {o : Oper}, nth ops.toList k = some o → pathB ops j f o = true → Before ops j k
  | 0, _, _, _, h => by cases h
  | f + 1, k, o, ho, h => by
    unfold pathB at h
    obtain ⟨e, he, hb⟩ := List.any_eq_true.1 h
    simp only [Bool.and_eq_true, Bool.or_eq_true] at hb
    obtain ⟨hbi, hb⟩ := hb
    have hedge : hasEdge o e.on = true := List.any_eq_true.2 ⟨e, he, by rw [Nat.beq_refl, hbi]; rfl⟩
    rcases hb with hb | ⟨_, hb⟩
    · rw [← Nat.eq_of_beq_eq_true hb]
      exact .edge ho hedge
    · split at hb
      · rename_i o' ho'
        exact .step ho hedge (pathB_before f ho' hb)
      · cases hb

theorem forceBs_some : ∀ (l : List Bool) (K : List Bool → Option R) (r : R), forceBs l K = some r → K l = some r
  | [], _, _, h => h
  | b :: l, K, r, h => by
    have := forceBs_some l _ r h
    cases b <;> exact this

theorem visL_length (ids : List Nat) : ∀ (i : Nat) (H : Hp E), (visL E ids i H).length = H.length
  | _, [] => rfl
  | i, _ :: H => by simp only [visL, List.length_cons, visL_length ids (i + 1) H]

def vz (vs : List Bool) (i : Nat) : Bool := (nth vs i).getD false

theorem vz_zero (wm : List Bool) : vz wm 0 = wm.headD false := by cases wm <;> rfl
theorem vz_succ (wm : List Bool) (i : Nat) : vz wm (i + 1) = vz wm.tail i := by cases wm <;> rfl

theorem maskH_nil : ∀ (wm : List Bool) (H : Hp E) (i : Nat), nth (maskH E wm [] H) i = (nth H i).map fun _ => none
  | _, [], _ => rfl
  | _, _ :: H, 0 => rfl
  | wm, _ :: H, i + 1 => maskH_nil wm H i

theorem nth_maskH : ∀ (wm vs : List Bool) (H : Hp E) (i : Nat), nth (maskH E wm vs H) i = (nth H i).map fun x => cond (vz vs i) (x.map fun he => ⟨cond (vz wm i) he.ro true, he.b⟩) none
  | wm, [], H, i => maskH_nil wm H i
  | _, _ :: _, [], _ => rfl
  | wm, b :: vs, x :: H, 0 => by rw [vz_zero wm]; rfl
  | wm, b :: vs, x :: H, i + 1 => by rw [vz_succ wm]; exact nth_maskH wm.tail vs H i

theorem mergeK_some : ∀ (wm vs : List Bool) (H H1 : Hp E) (K : Hp E → Option R) (r : R), mergeK E wm vs H H1 K = some r →
    ∃ H', K H' = some r ∧ vs.length = H.length ∧ H.length ≤ H1.length ∧ H'.length = H1.length ∧ ∀ i, nth H' i = if i < H.length ∧ (vz wm i && vz vs i) = false then nth H i else nth H1 i
  | _, [], [], H1, K, r, h => ⟨H1, h, rfl, Nat.zero_le _, rfl, fun i => by rw [if_neg (fun e => by have := e.1; simp at this)]⟩
  | wm, b :: vs, x :: H, y :: H1, K, r, h => by
    obtain ⟨H', hK, h1, h2, h3, h4⟩ := mergeK_some wm.tail vs H H1 _ r h
    have key : ∀ z : Option (HE E), (z = cond (wm.headD false && b) y x) → ∀ i, nth (z :: H') i = if i < (x :: H).length ∧ (vz wm i && vz (b :: vs) i) = false then nth (x :: H) i else nth (y :: H1) i := by
      intro z hz i
      cases i with
      | zero =>
        have e0 : vz (b :: vs) 0 = b := rfl
        rw [e0, hz, vz_zero]
        by_cases hw : (wm.headD false && b) = true
        · rw [if_neg (fun e => by rw [hw] at e; cases e.2), hw]; rfl
        · have hw' := Bool.eq_false_iff.2 hw
          rw [if_pos ⟨by simp, hw'⟩, hw']; rfl
      | succ i =>
        have e1 : vz (b :: vs) (i + 1) = vz vs i := rfl
        rw [e1, vz_succ]
        have := h4 i
        simp only [List.length_cons, Nat.add_lt_add_iff_right]
        exact this
    rcases cond_some hK with ⟨hb, hK⟩ | ⟨hb, hK⟩
    · exact ⟨_, hK, by simp [h1], by simpa using h2, by simp [h3], key y (by rw [hb]; rfl)⟩
    · exact ⟨_, hK, by simp [h1], by simpa using h2, by simp [h3], key x (by rw [hb]; rfl)⟩
  | _, [], _ :: _, _, _, _, h => by cases h
  | _, _ :: _, [], _, _, _, h => by cases h
  | _, _ :: _, _ :: _, [], _, _, h => by cases h

theorem entsOk_spec {p : Nat → Bool} : ∀ {wm vs : List Bool} {H : Hp E}, entsOk E p wm vs H = true → ∀ i x, nth H i = some x → ((vz wm i && vz vs i) = true ∨ vs.length ≤ i) → heOk E p x = true
  | _, [], H, h, i, x, hx, _ => by
    unfold entsOk at h
    exact List.all_eq_true.1 h x (nth_mem hx)
  | _, _ :: _, [], _, _, _, hx, _ => by cases hx
  | wm, b :: vs, y :: H, h, 0, x, hx, hw => by
    cases hx
    simp only [entsOk, Bool.and_eq_true, Bool.or_eq_true, Bool.not_eq_true'] at h
    rcases hw with hw | hw
    · rw [vz_zero] at hw
      have hw : (wm.headD false && b) = true := hw
      rcases h.1 with h1 | h1
      · rw [hw] at h1; cases h1
      · exact h1
    · simp at hw
  | wm, b :: vs, y :: H, h, i + 1, x, hx, hw => by
    simp only [entsOk, Bool.and_eq_true] at h
    rw [vz_succ] at hw
    exact entsOk_spec h.2 i x hx (hw.imp id (fun h => by simpa using h))

theorem newMask_spec : ∀ {wm vs : List Bool} {H : Hp E} {i : Nat}, i < H.length → ((vz wm i && vz vs i) = true ∨ vs.length ≤ i) → vz (newMask E wm vs H) i = true
  | _, [], H, i, hi, _ => by
    unfold newMask vz
    rw [nth_map]
    obtain ⟨x, hx⟩ := nth_some hi
    rw [hx]; rfl
  | _, _ :: _, [], _, hi, _ => by simp at hi
  | wm, b :: vs, y :: H, 0, _, hw => by
    rcases hw with hw | hw
    · rw [vz_zero] at hw; exact hw
    · simp at hw
  | wm, b :: vs, y :: H, i + 1, hi, hw => by
    rw [vz_succ] at hw
    exact newMask_spec (wm := wm.tail) (vs := vs) (H := H) (i := i) (by simpa using hi) (hw.imp id (fun h => by simpa using h))

theorem meets_spec : ∀ {l m : List Bool}, meets l m = false → ∀ i, ¬ (vz l i = true ∧ vz m i = true)
  | [], _, _, i, h => by have := h.1; simp [vz, nth] at this
  | _ :: _, [], _, i, h => by have := h.2; simp [vz, nth] at this
  | a :: l, b :: m, h, 0, e => by
    simp only [meets, Bool.or_eq_false_iff] at h
    have h1 : a = true := e.1
    have h2 : b = true := e.2
    rw [h1, h2] at h; cases h.1
  | a :: l, b :: m, h, i + 1, e => by
    simp only [meets, Bool.or_eq_false_iff] at h
    exact meets_spec h.2 i e

def pIn (V : Nat → Bool) (n : Nat) (i : Nat) : Bool := V i || Nat.ble n i

structure DStep (E : Env) (ops : Array Oper) (o : Oper) (F : Fr) (H : Hp E) (v : AV) (V wr : Nat → Bool) (F1 : Fr) (H1 : Hp E) : Prop where
  put : F1 = putF F o.dst v
  room : ∀ d, o.dst = some d → d < F.length
  vle : ∀ b, V b = true → b < H.length
  grow : H.length ≤ H1.length
  did : (GoIs ops F o.guard true ∧ ∃ M H' : Hp E, (∀ i, nth M i = (nth H i).map fun x => cond (V i) (x.map fun he => ⟨cond (wr i) he.ro true, he.b⟩) none) ∧ OpOk E o (maskF (looks ops o) 0 F) M v H' ∧ H1.length = H'.length ∧
      (∀ i, nth H1 i = if i < H.length ∧ (wr i && V i) = false then nth H i else nth H' i) ∧ (∀ s ∈ cellsOf v, idsOk (pIn V H.length) s = true) ∧
      (∀ i x, nth H' i = some x → ((wr i && V i) = true ∨ H.length ≤ i) → heOk E (pIn V H.length) x = true)) ∨
    (GoIs ops F o.guard false ∧ v = .tup [] ∧ H1 = H ∧ (∀ b, V b = false) ∧ ∀ b, wr b = false) ∨
    (GoIs ops F o.guard true ∧ moveV o F = some v ∧ H1 = H ∧ (∀ b, V b = false) ∧ ∀ b, wr b = false)

def Apart (Hj Hj1 : Hp E) (Vj wj Vk wk : Nat → Bool) : Prop :=
  ∀ b, Vk b = true → ¬ ((wj b && Vj b) = true ∨ (Hj.length ≤ b ∧ b < Hj1.length)) ∧ (wk b = true → Vj b = false)

def ApartR (rec : Nat × List Bool × List Bool) (Vk wk : Nat → Bool) : Prop :=
  ∀ b, Vk b = true → vz rec.2.2 b = false ∧ (wk b = true → vz rec.2.1 b = false)

theorem recsOk_spec {ops : Array Oper} {o : Oper} {wm vs : List Bool} {rs : List (Nat × List Bool × List Bool)} {k : Nat} (ho : nth ops.toList k = some o) (h : recsOk ops o wm vs rs = true) :
    ∀ rec ∈ rs, ApartR rec (vz vs) (vz wm) ∨ Before ops rec.1 k := fun rec hr => by
  have := List.all_eq_true.1 h rec hr
  simp only [Bool.or_eq_true, Bool.and_eq_true, Bool.not_eq_true'] at this
  rcases this with ⟨h1, h2⟩ | h1
  · refine .inl fun b hb => ⟨?_, fun hw => ?_⟩
    · have := meets_spec h1 b
      cases hz : vz rec.2.2 b with
      | false => rfl
      | true => exact absurd ⟨hz, hb⟩ this
    · have := meets_spec h2 b
      cases hz : vz rec.2.1 b with
      | false => rfl
      | true => exact absurd ⟨hz, hw⟩ this
  · exact .inr (pathB_before 12 ho h1)

theorem evalD1_ok (ok : EnvOk E) {O : Orc E} (hO : OrcOk O) {ops : Array Oper} {fro : Bool} {o : Oper} {k : Nat} {rs : List (Nat × List Bool × List Bool)} {wm vs : List Bool} {F : Fr} {H : Hp E} {K : List (Nat × List Bool × List Bool) → Fr → Hp E → Option R} {r : R}
    (hgo : GoIs ops F o.guard true) (hvl : vs.length = H.length) (h : evalD1 E O ops fro o k rs wm vs F H K = some r) :
    ∃ v wn H1, K ((k, vs, wn) :: rs) (putF F o.dst v) H1 = some r ∧ recsOk ops o wm vs rs = true ∧ DStep E ops o F H v (vz vs) (vz wm) (putF F o.dst v) H1 ∧ ∀ b, (vz wm b && vz vs b) = true ∨ (H.length ≤ b ∧ b < H1.length) → vz wn b = true := by
  unfold evalD1 at h
  obtain ⟨hrec, h⟩ := cond_none_right h
  obtain ⟨v, H', h, hop⟩ := evalOp_ok ok hO h
  obtain ⟨hids, h⟩ := cond_none_right h
  simp only [Bool.and_eq_true] at hids
  have h := forceBs_some _ _ _ h
  obtain ⟨H1, h, _, h2, h3, h4⟩ := mergeK_some wm vs _ _ _ _ h
  obtain ⟨h, hroom⟩ := putK_putF h
  have hp : (visIn vs) = pIn (vz vs) H.length := by
    funext i
    unfold visIn pIn
    rw [hvl]; rfl
  rw [hp] at hids
  refine ⟨v, _, H1, h, hrec, ⟨rfl, hroom, fun b hb => ?_, by rw [h3]; exact h2, .inl ⟨hgo, _, H', nth_maskH wm vs H, hop, h3, h4, fun s hs => List.all_eq_true.1 hids.1 s hs, fun i x hx hw => entsOk_spec hids.2 i x hx (by rw [hvl]; exact hw)⟩⟩, fun b hb => newMask_spec ?_ ?_⟩
  · rcases Nat.lt_or_ge b vs.length with h5 | h5
    · omega
    · unfold vz at hb
      rw [nth_none h5] at hb; cases hb
  · rcases hb with hb | hb
    · simp only [Bool.and_eq_true] at hb
      rcases Nat.lt_or_ge b vs.length with h5 | h5
      · omega
      · have h6 := hb.2
        unfold vz at h6
        rw [nth_none h5] at h6; cases h6
    · omega
  · rcases hb with hb | hb
    · exact .inl hb
    · exact .inr (by omega)

theorem evalD_ok (ok : EnvOk E) {O : Orc E} (hO : OrcOk O) {ops : Array Oper} {ws : List Nat} : ∀ (l : List Oper) (k : Nat) (rs : List (Nat × List Bool × List Bool)) (F : Fr) (H : Hp E) (K : Fr → Hp E → Option R) (r : R), (∀ j o, nth l j = some o → nth ops.toList (k + j) = some o) →
    evalD E O ops ws l k rs F H K = some r → ∃ (Fs : Nat → Fr) (Hs : Nat → Hp E) (ps : Nat → AV) (Vs wrs : Nat → Nat → Bool), Fs 0 = F ∧ Hs 0 = H ∧ K (Fs l.length) (Hs l.length) = some r ∧
      ∀ j o, nth l j = some o → DStep E ops o (Fs j) (Hs j) (ps j) (Vs j) (wrs j) (Fs (j + 1)) (Hs (j + 1)) ∧ (∀ rec ∈ rs, ApartR rec (Vs j) (wrs j) ∨ Before ops rec.1 (k + j)) ∧
        ∀ i, i < j → Apart (Hs i) (Hs (i + 1)) (Vs i) (wrs i) (Vs j) (wrs j) ∨ Before ops (k + i) (k + j) := by
  intro l
  induction l with
  | nil => intro k rs F H K r _ h; exact ⟨fun _ => F, fun _ => H, fun _ => .tup [], fun _ _ => false, fun _ _ => false, rfl, rfl, h, fun j o e => by cases e⟩
  | cons o l ih =>
    intro k rs F H K r hsuf h
    have ho : nth ops.toList k = some o := hsuf 0 o rfl
    have glue : ∀ (v : AV) (V wr : Nat → Bool) (F1 : Fr) (H1 : Hp E) (rs1 : List (Nat × List Bool × List Bool)), DStep E ops o F H v V wr F1 H1 → (∀ rec ∈ rs, ApartR rec V wr ∨ Before ops rec.1 k) → (∀ rec ∈ rs, rec ∈ rs1) →
        ((∀ b, V b = false) ∧ H1 = H ∧ (∀ b, wr b = false) ∨ ∃ vs wn, (k, vs, wn) ∈ rs1 ∧ V = vz vs ∧ ∀ b, (wr b && vz vs b) = true ∨ (H.length ≤ b ∧ b < H1.length) → vz wn b = true) → evalD E O ops ws l (k + 1) rs1 F1 H1 K = some r →
        ∃ (Fs : Nat → Fr) (Hs : Nat → Hp E) (ps : Nat → AV) (Vs wrs : Nat → Nat → Bool), Fs 0 = F ∧ Hs 0 = H ∧ K (Fs (o :: l).length) (Hs (o :: l).length) = some r ∧
          ∀ j o', nth (o :: l) j = some o' → DStep E ops o' (Fs j) (Hs j) (ps j) (Vs j) (wrs j) (Fs (j + 1)) (Hs (j + 1)) ∧ (∀ rec ∈ rs, ApartR rec (Vs j) (wrs j) ∨ Before ops rec.1 (k + j)) ∧
            ∀ i, i < j → Apart (Hs i) (Hs (i + 1)) (Vs i) (wrs i) (Vs j) (wrs j) ∨ Before ops (k + i) (k + j) := fun v V wr F1 H1 rs1 hst hrec hsub hnew h => by
      obtain ⟨Fs, Hs, ps, Vs, wrs, rfl, rfl, hK, hall⟩ := ih (k + 1) rs1 F1 H1 K r (fun j o' hj => by
        have := hsuf (j + 1) o' hj
        rwa [show k + (j + 1) = k + 1 + j by omega] at this) h
      refine ⟨fun n => match n with | 0 => F | n + 1 => Fs n, fun n => match n with | 0 => H | n + 1 => Hs n, fun n => match n with | 0 => v | n + 1 => ps n, fun n => match n with | 0 => V | n + 1 => Vs n, fun n => match n with | 0 => wr | n + 1 => wrs n, rfl, rfl, hK, fun j o' hj => ?_⟩
      cases j with
      | zero => cases hj; exact ⟨hst, hrec, fun i hi => by omega⟩
      | succ j =>
        obtain ⟨h1, h2, h3⟩ := hall j o' hj
        refine ⟨h1, fun rec hr => ?_, fun i hi => ?_⟩
        · have := h2 rec (hsub rec hr)
          rwa [show k + 1 + j = k + (j + 1) by omega] at this
        · cases i with
          | zero =>
            rcases hnew with ⟨hv, hH, hw⟩ | ⟨vs, wn, hm, hV, hwn⟩
            · left
              intro b _
              refine ⟨fun e => ?_, fun _ => hv b⟩
              rcases e with e | e
              · have e : (wr b && V b) = true := e
                rw [hw b] at e; cases e
              · have e1 : H.length ≤ b := e.1
                have e2 : b < (Hs 0).length := e.2
                rw [hH] at e2; omega
            · rcases h2 _ hm with h4 | h4
              · left
                intro b hb
                obtain ⟨h5, h6⟩ := h4 b hb
                refine ⟨fun e => ?_, fun hw => ?_⟩
                · have e : (wr b && V b) = true ∨ (H.length ≤ b ∧ b < (Hs 0).length) := e
                  rw [hV] at e
                  have := hwn b e
                  rw [this] at h5; cases h5
                · show V b = false
                  rw [hV]; exact h6 hw
              · right
                have h4 : Before ops k (k + 1 + j) := h4
                rwa [show k + 1 + j = k + (j + 1) by omega] at h4
          | succ i =>
            have := h3 i (by omega)
            rwa [show k + 1 + i = k + (i + 1) by omega, show k + 1 + j = k + (j + 1) by omega] at this
    unfold evalD at h
    obtain ⟨go, hgo, h2⟩ := guardK_some h
    clear h
    rcases cond_some h2 with ⟨hg, h⟩ | ⟨hg, h⟩ <;> clear h2 <;> subst hg
    · split at h
      · rename_i v hmv
        obtain ⟨h, hroom⟩ := putK_putF h
        exact glue v (fun _ => false) (fun _ => false) _ H rs ⟨rfl, hroom, fun b e => (by cases e), Nat.le_refl _, .inr (.inr ⟨hgo, hmv, rfl, fun _ => rfl, fun _ => rfl⟩)⟩ (fun rec _ => .inl fun b e => (by cases e)) (fun _ h => h) (.inl ⟨fun _ => rfl, rfl, fun _ => rfl⟩) h
      replace h := pickSplit_some h
      have h := forceBs_some _ _ _ h
      have hvl := visL_length (metIds E H 0 fuelMet (opSVs F o) []) 0 H
      generalize visL E (metIds E H 0 fuelMet (opSVs F o) []) 0 H = vs at h hvl
      obtain ⟨fro, wm, h⟩ : ∃ fro wm, evalD1 E O ops fro o k rs wm vs F H (fun rs F H => evalD E O ops ws l (k + 1) rs F H K) = some r := by
        rcases cond_some h with ⟨_, h⟩ | ⟨_, h⟩
        · rcases cond_some h with ⟨_, h⟩ | ⟨_, h⟩
          · exact ⟨_, _, h⟩
          · exact ⟨_, _, h⟩
        · split at h
          · exact ⟨_, _, forceBs_some _ _ _ h⟩
          · exact ⟨_, _, h⟩
      obtain ⟨v, wn, H1, h, hrec, hst, hwn⟩ := evalD1_ok ok hO hgo hvl h
      exact glue v _ (vz wm) _ H1 _ hst (recsOk_spec ho hrec) (fun _ => List.mem_cons_of_mem _) (.inr ⟨vs, wn, List.mem_cons_self, rfl, hwn⟩) h
    · obtain ⟨h, hroom⟩ := putK_putF h
      exact glue (.tup []) (fun _ => false) (fun _ => false) _ H rs ⟨rfl, hroom, fun b e => (by cases e), Nat.le_refl _, (.inr (.inl ⟨hgo, rfl, rfl, fun _ => rfl, fun _ => rfl⟩))⟩ (fun rec _ => .inl fun b e => (by cases e)) (fun _ h => h) (.inl ⟨fun _ => rfl, rfl, fun _ => rfl⟩) h

def FD (ops : Array Oper) (F0 : Fr) (ps : Nat → AV) (D : Nat → Bool) : Nat → Fr
  | 0 => F0
  | n + 1 => cond (D n) (putF (FD ops F0 ps D n) (dstOf ops n) (ps n)) (FD ops F0 ps D n)

section
variable {ops : Array Oper} {F0 : Fr} {ps : Nat → AV} {D D' : Nat → Bool}

theorem FD_length : ∀ n, (FD ops F0 ps D n).length = F0.length
  | 0 => rfl
  | n + 1 => by
    simp only [FD]
    cases D n <;> simp [FD_length n]

theorem nth_putF_ne {F : Fr} {dst : Option Tmp} {v : AV} {t : Tmp} (h : dst ≠ some t) : nth (putF F dst v) t = nth F t := by
  cases dst with
  | none => rfl
  | some d => simp only [putF]; rw [nth_nset, if_neg (fun e => h (by rw [e.1]))]

theorem FD_congr {t : Tmp} : ∀ n, (∀ j, j < n → dstOf ops j = some t → D j = D' j) → nth (FD ops F0 ps D n) t = nth (FD ops F0 ps D' n) t
  | 0, _ => rfl
  | n + 1, h => by
    have ih := FD_congr n (fun j hj => h j (by omega))
    simp only [FD]
    by_cases hd : dstOf ops n = some t
    · rw [h n (by omega) hd]
      cases D' n with
      | false => exact ih
      | true =>
        simp only [cond_true, hd, putF]
        rw [nth_nset, nth_nset, FD_length, FD_length, ih]
    · have h1 : ∀ b (F : Fr), nth (cond b (putF F (dstOf ops n) (ps n)) F) t = nth F t := fun b F => by
        cases b with
        | false => rfl
        | true => exact nth_putF_ne hd
      rw [h1, h1, ih]

theorem FD_ext : ∀ n, (∀ j, j < n → D j = D' j) → FD ops F0 ps D n = FD ops F0 ps D' n
  | 0, _ => rfl
  | n + 1, h => by simp only [FD]; rw [h n (by omega), FD_ext n (fun j hj => h j (by omega))]

theorem FD_below (k : Nat) : ∀ m, FD ops F0 ps (fun j => decide (j < k)) (k + m) = FD ops F0 ps (fun _ => true) k
  | 0 => FD_ext k fun j hj => by simpa using hj
  | m + 1 => by
    show cond (decide (k + m < k)) _ _ = _
    rw [show decide (k + m < k) = false from by simp]
    exact FD_below k m
end

end
end Go.Eng
