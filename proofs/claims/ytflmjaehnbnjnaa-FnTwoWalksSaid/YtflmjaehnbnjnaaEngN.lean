import Derived.Test.YtflmjaehnbnjnaaEngM
set_option linter.all false
namespace Go.Eng
open Go Go.RowKit

section
variable {E : Env}

def Sim (E : Env) (f : FuncId) (args : List AV) (H : Hp E) (v : AV) (H' : Hp E) : Prop :=
  (∃ fn, E.P.funcs[f]? = some fn ∧ (fn.name == "runtime.NumGoroutine") = false ∧ fn.body.isNone = false) ∧
  ∀ (φ : List PE) (w : World) (av : List Value), All2 (RA φ) args av → RH φ H w →
    Calls E.P f av.toArray w fun e w' => ∃ rv φ', e = .returned rv ∧ Inv φ H w φ' H' w' ∧ RA φ' v rv

def OrcOk (O : Orc E) : Prop := ∀ {R : Type} (f : FuncId) (args : List AV) (H : Hp E) (K : AV → Hp E → Option R) (r : R), O f args H K = some r → ∃ v H', K v H' = some r ∧ Sim E f args H v H'

theorem All2.map_left {α α' β : Type} {p : α' → β → Prop} {f : α → α'} : ∀ {l : List α} {m : List β}, All2 (fun a b => p (f a) b) l m → All2 p (l.map f) m
  | [], [], _ => trivial
  | _ :: _, _ :: _, h => ⟨h.1, All2.map_left h.2⟩
  | [], _ :: _, h => h.elim
  | _ :: _, [], h => h.elim

def RenOk (f : SV → SV) (φ φ' : List PE) : Prop := ∀ s v, RS φ s v → RS φ' (f s) v

theorem RenOk.av {f : SV → SV} {φ φ' : List PE} (h : RenOk f φ φ') {a : AV} {v : Value} (ha : RA φ a v) : RA φ' (mapAV f a) v := by
  cases a with
  | sc s => exact h s v ha
  | agg l => obtain ⟨cs, rfl, hc⟩ := ha; exact ⟨cs, rfl, All2.map_left (hc.mono fun s v => h s v)⟩
  | tup l =>
    obtain ⟨cs, rfl, hc⟩ := ha
    refine ⟨cs, rfl, All2.map_left (hc.mono fun s v hs => ?_)⟩
    obtain ⟨b, l⟩ := s
    cases b with
    | true => obtain ⟨cs, rfl, hc⟩ := hs; exact ⟨cs, rfl, All2.map_left (hc.mono fun s v => h s v)⟩
    | false => obtain ⟨s, hs, hr⟩ := hs; exact ⟨f s, by simp only [] at hs ⊢; rw [hs]; rfl, h _ _ hr⟩

theorem RenOk.rb {f : SV → SV} {φ φ' : List PE} (ok : EnvOk E) (h : RenOk f φ φ') {he : HE E} {L : Loc} {w : World} (hb : RB φ he L w) : RB φ' (mapHE E f he) L w := by
  obtain ⟨⟨c, t, fz, h1, h2, h3, h4⟩, hf⟩ := hb
  obtain ⟨ro, b⟩ := he
  cases b with
  | exp ty l =>
    refine ⟨⟨c, t, fz, h1, h2, fun j s hs => ?_, fun hro => ⟨fun _ => (h4 hro).1 rfl, by
      have h5 := (h4 hro).2
      cases ty with
      | none => trivial
      | some T => exact ⟨h5.1, h5.2.1, by rw [List.length_map]; exact h5.2.2⟩⟩⟩, trivial⟩
    have hs : nth (l.map f) j = some s := hs
    rw [nth_map] at hs
    obtain ⟨s', hs', rfl⟩ := Option.map_eq_some_iff.1 hs
    obtain ⟨v, hv, hr⟩ := h3 j s' hs'
    exact ⟨v, hv, h _ _ hr⟩
  | rows b =>
    refine ⟨⟨c, t, fz, h1, h2, fun j s hs => ?_, h4⟩, hf⟩
    obtain ⟨v, hv, hr⟩ := h3 j s hs
    exact ⟨v, hv, hr.plain (ok.plain b s (nth_mem hs))⟩
  | frz b =>
    refine ⟨⟨c, t, fz, h1, h2, fun j s hs => ?_, h4⟩, hf⟩
    obtain ⟨v, hv, hr⟩ := h3 j s hs
    exact ⟨v, hv, hr.plain (ok.plain b s (nth_mem hs))⟩

theorem RenOk.ent {f : SV → SV} {φ φ' : List PE} (ok : EnvOk E) (h : RenOk f φ φ') {pe : PE} {x : Option (HE E)} {w : World} (hb : Ent φ w pe x) : Ent φ' w pe (x.map (mapHE E f)) := by
  cases pe with
  | dead => cases x <;> exact hb
  | abs => cases x <;> exact hb
  | virt =>
    cases x with
    | none => exact hb
    | some he =>
      obtain ⟨h1, b, h2⟩ := hb
      obtain ⟨ro, bb⟩ := he
      simp only at h2
      subst h2
      exact ⟨h1, b, rfl⟩
  | «at» L =>
    cases x with
    | none => exact hb
    | some he => exact h.rb ok hb

theorem mapHE_ro (f : SV → SV) (he : HE E) : (mapHE E f he).ro = he.ro := by
  obtain ⟨ro, b⟩ := he
  cases b <;> rfl

theorem wrB_spec {H : Hp E} {fro : Bool} {h : Hand} (hw : wrB E H fro h = true) : fro = false ∧ h.w = none ∧ ∃ he, nth H h.id = some (some he) ∧ he.ro = false := by
  unfold wrB at hw
  simp only [Bool.and_eq_true, Bool.not_eq_true', Option.isNone_iff_eq_none] at hw
  obtain ⟨⟨h1, h2⟩, h3⟩ := hw
  refine ⟨h1, h2, ?_⟩
  split at h3
  · rename_i he hh
    exact ⟨he, hh, by simpa using h3⟩
  · cases h3

theorem handsOk_spec {H : Hp E} {fro : Bool} {hs : List Hand} (h : handsOk E H fro hs = true) {i j : Nat} {a b : Hand} (hi : nth hs i = some a) (hj : nth hs j = some b) (ha : wrB E H fro a = true) (hb : b.w ≠ none) : a.id ≠ b.id := by
  intro e
  obtain ⟨h1, h2, he, h3, h4⟩ := wrB_spec ha
  unfold handsOk at h
  rw [h1] at h
  simp only [Bool.false_or, List.all_eq_true, Bool.or_eq_true, Bool.not_eq_true', Bool.and_eq_false_iff] at h
  have := h b (nth_mem hj)
  rcases this with h5 | h5
  · exact hb (by simpa using h5)
  · rcases h5 a (nth_mem hi) with h6 | h6
    · rcases h6 with h6 | h6
      · rw [e] at h6
        have := Nat.beq_refl b.id
        rw [this] at h6; cases h6
      · rw [h2] at h6; cases h6
    · rw [← e, h3] at h6
      simp only [] at h6
      rw [h4] at h6; cases h6

theorem callK_ok (ok : EnvOk E) {O : Orc E} (hO : OrcOk O) {R : Type} {fro : Bool} {H : Hp E} {f : FuncId} {args : List AV} {K : AV → Hp E → Option R} {r : R} (h : callK E O fro H f args K = some r) :
    (∃ fn, E.P.funcs[f]? = some fn ∧ (fn.name == "runtime.NumGoroutine") = false ∧ fn.body.isNone = false) ∧ ∃ v H2, K v H2 = some r ∧ (fro = true → ∀ i x, nth H i = some x → nth H2 i = some x) ∧
    ∀ (φ0 : List PE) (H0 : Hp E) (w0 : World) (φ : List PE) (w : World) (av : List Value), φ0.length = H0.length → Inv φ0 H0 w0 φ H w → All2 (RA φ) args av →
      Calls E.P f av.toArray w fun e w' => ∃ rv φ', e = .returned rv ∧ Ext φ φ' ∧ Inv φ0 H0 w0 φ' H2 w' ∧ RA φ' v rv := by
  unfold callK at h
  split at h
  · cases h
  rename_i args' hs0 hargs
  obtain ⟨hs, Hc, h, hlen, ⟨t, ht⟩, hpack⟩ := packK_ok ok _ _ _ _ _ _ h rfl (Nat.zero_le _)
  obtain ⟨hok, h⟩ := cond_none_right h
  obtain ⟨v, H', hK, hent, hsim⟩ := hO _ _ _ _ _ h
  refine ⟨hent, _, _, hK, fun hfro i x hx => ?_, fun φ0 H0 w0 φ w av hl0 hI hav => ?_⟩
  · -- nothing that was there is written
    have hno : ∀ hs (H' H1 : Hp E), (∀ j h, nth hs j = some h → wrB E H fro h = false) → nth H1 i = some x → nth (backL (wrB E H fro) (Option.map (mapHE E (backSV hs hs.length H.length))) hs H' H1) i = some x := by
      intro hs
      generalize (Option.map (mapHE E (backSV hs hs.length H.length))) = g
      induction hs with
      | nil => intro H' H1 _ h1; exact nth_append_left h1
      | cons h hs ih =>
        intro H' H1 hw h1
        cases H' with
        | nil => exact h1
        | cons y H' =>
          simp only [backL]
          rw [hw 0 h rfl]
          exact ih H' H1 (fun j h hj => hw (j + 1) h hj) h1
    refine hno hs H' H (fun j h hj => ?_) hx
    rw [hfro]; rfl
  have hRH := hI.rh
  obtain ⟨hnd0, hargs2⟩ := handAVs_ok args [] args' hs0 av hargs hav
  obtain ⟨e0, hc0, hav0⟩ := hargs2 [] trivial
  obtain ⟨e1, hnd, hc1, hent1⟩ := hpack φ w ([] ++ e0) hRH (hnd0 (fun i j id hi => by simp [nth] at hi)) hc0 (fun k x h pe hk => by simp [nth] at hk)
  generalize hφc : [] ++ e0 ++ e1 = φc at hc1 hent1
  have havc : All2 (RA φc) args' av := by rw [← hφc]; exact hav0.mono fun _ _ => RA.ext (.push _ _)
  have hcl := hc1.length
  -- the callee's heap
  have hRHc : RH φc Hc w := by
    refine ⟨by omega, fun i pe x hp hx => ?_, fun i j L L' he hne hi hj hh hro => ?_⟩
    · obtain ⟨h, hh⟩ := nth_some (l := hs) (n := i) (by have := nth_lt hp; omega)
      exact (hent1 i x h pe hx hh hp).1
    · obtain ⟨a, ha⟩ := nth_some (l := hs) (n := i) (by have := nth_lt hi; omega)
      obtain ⟨b, hb⟩ := nth_some (l := hs) (n := j) (by have := nth_lt hj; omega)
      have hwa := ((hent1 i _ a _ hh ha hi).2 he rfl).1 hro
      obtain ⟨h1, h2, he1, h3, h4⟩ := wrB_spec hwa
      obtain ⟨pa, hpa, hra⟩ := handRel_nth hc1 ha
      rw [hi] at hpa; cases hpa
      obtain ⟨pb, hpb, hrb⟩ := handRel_nth hc1 hb
      rw [hj] at hpb; cases hpb
      have hra : nth φ a.id = some (.at L) := by
        unfold HandRel at hra; rw [h2] at hra; exact hra.1
      have hid : a.id ≠ b.id := by
        intro e
        cases hbw : b.w with
        | none =>
          refine hne (hnd i j a.id ?_ ?_)
          · rw [ha]; obtain ⟨x, y⟩ := a; simp only at h2; subst h2; rfl
          · rw [hb, e]; obtain ⟨x, y⟩ := b; simp only at hbw; subst hbw; rfl
        | some _ => exact handsOk_spec hok ha hb hwa (by rw [hbw]; exact fun e => by cases e) e
      obtain ⟨L2, hL2, hL2b⟩ : ∃ L2, nth φ b.id = some (.at L2) ∧ L'.b = L2.b := by
        unfold HandRel at hrb
        split at hrb
        · exact ⟨L', hrb.1, rfl⟩
        · split at hrb
          · cases hrb
          · cases hrb.1
          · rename_i L2 hL2
            obtain ⟨off, cap, hx, _⟩ := hrb
            cases hx
            exact ⟨L2, hL2, rfl⟩
          · exact hrb.elim
          · exact hrb.elim
      rw [hL2b]
      exact hRH.inj a.id b.id L L2 he1 hid hra hL2 h3 h4
  refine (hsim φc w av havc hRHc).mono ?_
  rintro e w' ⟨rv, φc', rfl, hIc, hrv⟩
  have hlc' : φc'.length = H'.length := hIc.rh.len
  have hle : hs.length ≤ H'.length := by have := hIc.hle; omega
  have hle' : hs.length ≤ φc'.length := by omega
  have hup : ∀ i j a b, i ≠ j → nth hs i = some a → nth hs j = some b → wrB E H fro a = true → wrB E H fro b = true → a.id ≠ b.id := fun i j a b hne hi hj ha hb e => by
    obtain ⟨_, h2, _⟩ := wrB_spec ha
    obtain ⟨_, h2', _⟩ := wrB_spec hb
    refine hne (hnd i j a.id ?_ ?_)
    · rw [hi]; obtain ⟨x, y⟩ := a; simp only at h2; subst h2; rfl
    · rw [hj, e]; obtain ⟨x, y⟩ := b; simp only at h2'; subst h2'; rfl
  have hn : φ.length = H.length := hRH.len
  let G := backSV hs hs.length H.length
  let φ' := backL (wrB E H fro) (id : PE → PE) hs φc' φ
  let H2 := backL (wrB E H fro) (Option.map (mapHE E G)) hs H' H
  have hφl : φ'.length = φ.length + (φc'.length - hs.length) := backL_length _ _ _ _ _ hle'
  have hHl : H2.length = H.length + (H'.length - hs.length) := backL_length _ _ _ _ _ hle
  have hφnew : ∀ k, hs.length ≤ k → nth φ' (φ.length + (k - hs.length)) = nth φc' k := fun k hk => by
    have := backL_new (wrB E H fro) (id : PE → PE) hs φc' φ k hk hle'
    rw [this]; cases nth φc' k <;> rfl
  have hHnew : ∀ k, hs.length ≤ k → nth H2 (H.length + (k - hs.length)) = (nth H' k).map (Option.map (mapHE E G)) := fun k hk => backL_new _ _ hs H' H k hk hle
  -- what became of an old block
  have hold : ∀ i, i < H.length → (∃ j h, nth hs j = some h ∧ wrB E H fro h = true ∧ h.id = i ∧ nth φ' i = nth φc' j ∧ nth H2 i = (nth H' j).map (Option.map (mapHE E G)) ∧ nth φ i = nth φc j) ∨
      ((∀ j h, nth hs j = some h → wrB E H fro h = true → h.id ≠ i) ∧ nth φ' i = nth φ i ∧ nth H2 i = nth H i) := fun i hi => by
    rcases backL_old (wrB E H fro) (id : PE → PE) hs φc' φ hle' hup i (by omega) with ⟨j, a, ha, hwa, hid, hr⟩ | ⟨hno, hr⟩
    · rcases backL_old (wrB E H fro) (Option.map (mapHE E G)) hs H' H hle hup i hi with ⟨j2, b, hb, hwb, hid2, hr2⟩ | ⟨hno2, _⟩
      · have hjj : j = j2 := by
          rcases Nat.decEq j j2 with hne | he
          · exact absurd (hid.trans hid2.symm) (hup j j2 a b hne ha hb hwa hwb)
          · exact he
        subst hjj
        refine .inl ⟨j, a, ha, hwa, hid, ?_, hr2, ?_⟩
        · rw [hr]; cases nth φc' j <;> rfl
        · obtain ⟨pe, hpe, hrel⟩ := handRel_nth hc1 ha
          obtain ⟨_, h2, _⟩ := wrB_spec hwa
          unfold HandRel at hrel
          rw [h2] at hrel
          rw [hpe, ← hid]; exact hrel.1
      · exact absurd hid (hno2 j a ha hwa)
    · rcases backL_old (wrB E H fro) (Option.map (mapHE E G)) hs H' H hle hup i hi with ⟨j2, b, hb, hwb, hid2, _⟩ | ⟨_, hr2⟩
      · exact absurd hid2 (hno j2 b hb hwb)
      · exact .inr ⟨hno, hr, hr2⟩
  have hext : Ext φ φ' := fun i pe hpe => by
    rcases hold i (by have := nth_lt hpe; omega) with ⟨j, a, _, _, _, h1, _, h3⟩ | ⟨_, h1, _⟩
    · rw [h1]
      rw [hpe] at h3
      exact hIc.base j pe h3.symm
    · exact .inl (h1.trans hpe)
  -- a block that was handed whole
  have hkey : ∀ j id, nth hs j = some ⟨id, none⟩ → nth φ' id = nth φc' j := fun j id hj => by
    obtain ⟨pe, hpe, hrel⟩ := handRel_nth hc1 hj
    have hrel : nth φ id = some pe ∧ pe ≠ .abs := hrel
    obtain ⟨hrel, hna⟩ := hrel
    rcases hold id (by have := nth_lt hrel; omega) with ⟨j2, a, ha, hwa, hid, h1, _, _⟩ | ⟨hno, h1, _⟩
    · have : j = j2 := hnd j j2 id hj (by rw [ha]; obtain ⟨_, h2, _⟩ := wrB_spec hwa; obtain ⟨x, y⟩ := a; simp only at h2 hid; subst h2; subst hid; rfl)
      subst this
      exact h1
    · rw [h1, hrel]
      have hnw : wrB E H fro ⟨id, none⟩ = false := by
        cases hw : wrB E H fro ⟨id, none⟩ with
        | false => rfl
        | true => exact absurd rfl (hno j _ hj hw)
      obtain ⟨x, hx⟩ := nth_some (l := Hc) (n := j) (by have := nth_lt hj; omega)
      have hentj := hent1 j x _ pe hx hj hpe
      rcases hIc.base j pe hpe with h2 | h2
      · exact h2.symm
      · cases x with
        | none =>
          have := hentj.1
          cases pe <;> first | exact h2.symm | exact this.elim
        | some he =>
          have hro : he.ro = true := by
            cases hr : he.ro with
            | true => rfl
            | false => have := (hentj.2 he rfl).1 hr; rw [hnw] at this; cases this
          have := hIc.rosame j he hx hro
          have := hIc.rh.ent j .dead _ h2 this
          exact this.elim
  have hRP : ∀ j id row fld v, nth φ' id = nth φc' j → RP φc' j row fld v → RP φ' id row fld v := fun j id row fld v e hr => ⟨hr.1, by rw [e]; exact hr.2⟩
  have hren : RenOk G φc' φ' := fun s v hs' => by
    cases s with
    | ptr j row fld =>
      show RS φ' (cond (Nat.ble hs.length j) _ _) v
      have hr : RP φc' j row fld v := hs'
      cases hb : Nat.ble hs.length j with
      | true =>
        have hjm : hs.length ≤ j := Nat.le_of_ble_eq_true hb
        exact hRP j (H.length + (j - hs.length)) row fld v (by rw [← hn]; exact hφnew j hjm) hr
      | false =>
        simp only [cond_false]
        split
        · rename_i id hj; exact hRP j id row fld v (hkey j id hj) hr
        · exact hr.1
    | slc j w nl =>
      show RS φ' (cond (Nat.ble hs.length j) _ _) v
      obtain ⟨h1, h2⟩ := hs'
      cases hb : Nat.ble hs.length j with
      | true =>
        have hjm : hs.length ≤ j := Nat.le_of_ble_eq_true hb
        refine ⟨h1, ?_⟩
        rw [← hn, hφnew j hjm]; exact h2
      | false =>
        simp only [cond_false]
        split
        · rename_i id hj
          refine ⟨h1, ?_⟩
          rw [hkey j id hj]; exact h2
        · exact h1
    | fn f caps =>
      obtain ⟨cv, rfl, hcv⟩ := hs'
      have hG : ∀ bb, (caps.all fun c => Nat.ble hs.length c.1 || (match nth hs c.1 with | some ⟨_, none⟩ => true | _ => false)) = bb →
          G (.fn f caps) = cond bb (.fn f (caps.map fun c => (cond (Nat.ble hs.length c.1) (H.length + (c.1 - hs.length)) (((nth hs c.1).map (·.id)).getD 0), c.2))) .top := fun bb e => by rw [← e]; rfl
      cases hall : (caps.all fun c => Nat.ble hs.length c.1 || (match nth hs c.1 with | some ⟨_, none⟩ => true | _ => false)) with
      | false => rw [hG _ hall]; exact rfl
      | true =>
        rw [hG _ hall]
        refine ⟨cv, rfl, All2.map_left ?_⟩
        rw [List.all_eq_true] at hall
        clear hsim hK hG
        induction caps generalizing cv with
        | nil => cases cv <;> first | trivial | exact hcv.elim
        | cons c caps ih =>
          cases cv with
          | nil => exact hcv.elim
          | cons v cv =>
            refine ⟨?_, ih cv hcv.2 (fun x hx => hall x (by simp [hx]))⟩
            have hc := hall c (by simp)
            have hr : RP φc' c.1 c.2.1 c.2.2 v := hcv.1
            show RP φ' (cond (Nat.ble hs.length c.1) (H.length + (c.1 - hs.length)) _) _ _ _
            cases hb : Nat.ble hs.length c.1 with
            | true => exact hRP _ _ _ _ _ (by rw [← hn]; exact hφnew _ (Nat.le_of_ble_eq_true hb)) hr
            | false =>
              rw [hb] at hc
              simp only [Bool.false_or] at hc
              split at hc
              · rename_i id hj
                simp only [cond_false, hj, Option.map_some, Option.getD_some]
                exact hRP _ _ _ _ _ (hkey _ id hj) hr
              · cases hc
    | bool b => exact hs'
    | int k n => exact hs'
    | str s => exact hs'
    | nilp => exact hs'
    | nilf => exact hs'
    | nili => exact hs'
    | top => exact hs'
  -- what a writable block of the callee's is of the caller's
  have hwbc : ∀ b, WB φc Hc w b → w.heap.size ≤ b ∨ ∃ id L0 he0, nth φ id = some (.at L0) ∧ L0.b = b ∧ nth H id = some (some he0) ∧ he0.ro = false ∧ ∃ j h, nth hs j = some h ∧ wrB E H fro h = true ∧ h.id = id := fun b hb => by
    rcases hb with hb | ⟨j, L0, he0, h1, h2, h3, h4⟩
    · exact .inl hb
    · obtain ⟨a, ha⟩ := nth_some (l := hs) (n := j) (by have := nth_lt h1; omega)
      have hwa := ((hent1 j _ a _ h3 ha h1).2 he0 rfl).1 h4
      obtain ⟨_, h5, he1, h6, h7⟩ := wrB_spec hwa
      obtain ⟨pa, hpa, hra⟩ := handRel_nth hc1 ha
      rw [h1] at hpa; cases hpa
      unfold HandRel at hra
      rw [h5] at hra
      exact .inr ⟨a.id, L0, he1, hra.1, h2, h6, h7, j, a, ha, hwa, rfl⟩
  -- the blocks by where they stand now
  have hcase : ∀ i, i < H2.length → i < H.length ∨ ∃ k, hs.length ≤ k ∧ i = H.length + (k - hs.length) := fun i hi => by
    rcases Nat.lt_or_ge i H.length with h1 | h1
    · exact .inl h1
    · exact .inr ⟨i - H.length + hs.length, by omega, by omega⟩
  have hxro : ∀ {x : Option (HE E)} {he : HE E}, x.map (mapHE E G) = some he → ∃ he', x = some he' ∧ he'.ro = he.ro := fun {x he} e => by
    cases x with
    | none => cases e
    | some he' => cases e; exact ⟨he', rfl, (mapHE_ro G he').symm⟩
  refine ⟨rv, φ', rfl, hext, ⟨⟨by rw [hφl, hHl]; omega, fun i pe x hp hx => ?_, fun i j L L' he hne hi hj hh hro => ?_⟩, hI.base.trans hext, by have := hI.hle; show H0.length ≤ H2.length; omega, fun i he h0 hr0 => ?_, fun i he hi hh => ?_, fun i he hi hh => ?_, fun i L hi ha => ?_, hI.calm.trans hIc.calm, Nat.le_trans hI.size hIc.size, fun b hb => ?_⟩, hren.av hrv⟩
  · -- ent
    have hx : nth H2 i = some x := hx
    rcases hcase i (nth_lt hx) with hi | ⟨k, hk, rfl⟩
    · rcases hold i hi with ⟨j, a, ha, hwa, hid, h1, h2, h3⟩ | ⟨hno, h1, h2⟩
      · rw [hp] at h1
        rw [hx] at h2
        obtain ⟨y, hy, rfl⟩ := Option.map_eq_some_iff.1 h2.symm
        exact hren.ent ok (hIc.rh.ent j pe y h1.symm hy)
      · rw [hp] at h1
        rw [hx] at h2
        have he := (hRH.ent i pe x h1.symm h2.symm).ext hext
        cases pe with
        | dead => cases x <;> exact he
        | virt => cases x <;> exact he
        | abs => cases x <;> exact he
        | «at» L =>
          cases x with
          | none => exact he.elim
          | some hee =>
            refine RB.mono he (.refl _) (hIc.same L.b fun hwb => ?_)
            have hlt := RB.lt he
            rcases hwbc _ hwb with h5 | ⟨id, L0, he0, h5, h6, h7, h8, jj, a, ha, hwa, hid⟩
            · omega
            · have hne : id ≠ i := hid ▸ hno jj a ha hwa
              exact hRH.inj id i L0 L he0 hne h5 h1.symm h7 h8 h6
    · have h1 := hφnew k hk
      rw [hn, hp] at h1
      have h2 := hHnew k hk
      rw [hx] at h2
      obtain ⟨y, hy, rfl⟩ := Option.map_eq_some_iff.1 h2.symm
      exact hren.ent ok (hIc.rh.ent k pe y h1.symm hy)
  · -- inj
    have hh : nth H2 i = some (some he) := hh
    have fresh_old : ∀ k Lk i' Li, hs.length ≤ k → nth φc' k = some (.at Lk) → nth φ i' = some (.at Li) → (∀ j h, nth hs j = some h → wrB E H fro h = true → h.id ≠ i') → Lk.b ≠ Li.b := fun k Lk i' Li hk hLk hLi hno => by
      obtain ⟨hei, _, hrbi⟩ := hRH.at_ hLi
      have hlt := hrbi.lt
      rcases hwbc _ (hIc.fresh k Lk (by omega) hLk) with h5 | ⟨id, L0, he0, h5, h6, h7, h8, jj, a, ha, hwa, hid⟩
      · omega
      · rw [← h6]
        exact hRH.inj id i' L0 Li he0 (hid ▸ hno jj a ha hwa) h5 hLi h7 h8
    have hjlt : j < H2.length := by have := nth_lt hj; omega
    rcases hcase i (nth_lt hh) with hil | ⟨k, hk, rfl⟩
    · rcases hold i hil with ⟨ji, a, ha, hwa, hid, h1, h2, h3⟩ | ⟨hno, h1, h2⟩
      · rw [hi] at h1
        rw [hh] at h2
        obtain ⟨y, hy, hye⟩ := Option.map_eq_some_iff.1 h2.symm
        obtain ⟨he', rfl, hro'⟩ := hxro hye
        obtain ⟨_, h5, he1, h6, h7⟩ := wrB_spec hwa
        have hφi : nth φ i = some (.at L) := by
          obtain ⟨pe, hpe⟩ := nth_some (l := φc) (n := ji) (by have := nth_lt ha; omega)
          rcases hIc.base ji pe hpe with h8 | h8
          · rw [← h1] at h8; cases h8; rw [h3, hpe]
          · rw [← h1] at h8; cases h8
        rcases hcase j hjlt with hjl | ⟨k2, hk2, rfl⟩
        · rcases hold j hjl with ⟨jj, b, hb, hwb, hid2, h1', h2', h3'⟩ | ⟨hno', h1', h2'⟩
          · rw [hj] at h1'
            have hjj : ji ≠ jj := fun e => hne (by subst e; rw [ha] at hb; cases hb; exact hid.symm.trans hid2)
            exact hIc.rh.inj ji jj L L' he' hjj h1.symm h1'.symm hy (hro'.trans hro)
          · rw [hj] at h1'
            exact hRH.inj i j L L' he1 hne hφi h1'.symm (hid ▸ h6) h7
        · have h1' := hφnew k2 hk2
          rw [hn, hj] at h1'
          have : ji ≠ k2 := by have := nth_lt ha; omega
          exact hIc.rh.inj ji k2 L L' he' this h1.symm h1'.symm hy (hro'.trans hro)
      · rw [hi] at h1
        rw [hh] at h2
        rcases hcase j hjlt with hjl | ⟨k2, hk2, rfl⟩
        · rcases hold j hjl with ⟨jj, b, hb, hwb, hid2, h1', h2', h3'⟩ | ⟨hno', h1', h2'⟩
          · rw [hj] at h1'
            have hφj : nth φ j = some (.at L') := by
              obtain ⟨pe, hpe⟩ := nth_some (l := φc) (n := jj) (by have := nth_lt hb; omega)
              rcases hIc.base jj pe hpe with h8 | h8
              · rw [← h1'] at h8; cases h8; rw [h3', hpe]
              · rw [← h1'] at h8; cases h8
            exact hRH.inj i j L L' he hne h1.symm hφj h2.symm hro
          · rw [hj] at h1'
            exact hRH.inj i j L L' he hne h1.symm h1'.symm h2.symm hro
        · have h1' := hφnew k2 hk2
          rw [hn, hj] at h1'
          exact fun e => fresh_old k2 L' i L hk2 h1'.symm h1.symm hno e.symm
    · have h1 := hφnew k hk
      rw [hn, hi] at h1
      have h2 := hHnew k hk
      rw [hh] at h2
      obtain ⟨y, hy, hye⟩ := Option.map_eq_some_iff.1 h2.symm
      obtain ⟨he', rfl, hro'⟩ := hxro hye
      rcases hcase j hjlt with hjl | ⟨k2, hk2, rfl⟩
      · rcases hold j hjl with ⟨jj, b, hb, hwb, hid2, h1', h2', h3'⟩ | ⟨hno', h1', h2'⟩
        · rw [hj] at h1'
          have : k ≠ jj := by have := nth_lt hb; omega
          exact hIc.rh.inj k jj L L' he' this h1.symm h1'.symm hy (hro'.trans hro)
        · rw [hj] at h1'
          exact fresh_old k L j L' hk h1.symm h1'.symm hno'
      · have h1' := hφnew k2 hk2
        rw [hn, hj] at h1'
        have : k ≠ k2 := fun e => hne (by rw [e])
        exact hIc.rh.inj k k2 L L' he' this h1.symm h1'.symm hy (hro'.trans hro)
  · -- rosame
    have hHi := hI.rosame i he h0 hr0
    rcases hold i (nth_lt hHi) with ⟨j, a, ha, hwa, hid, _, _, _⟩ | ⟨_, _, h2⟩
    · obtain ⟨_, _, he1, h6, h7⟩ := wrB_spec hwa
      rw [hid, hHi] at h6; cases h6
      rw [hr0] at h7; cases h7
    · exact h2.trans hHi
  · -- robase
    have hh : nth H2 i = some (some he) := hh
    have hil : i < H.length := by have := hI.hle; omega
    rcases hold i hil with ⟨j, a, ha, hwa, hid, h1, h2, h3⟩ | ⟨_, _, h2⟩
    · rw [hh] at h2
      obtain ⟨y, hy, hye⟩ := Option.map_eq_some_iff.1 h2.symm
      obtain ⟨he', rfl, hro'⟩ := hxro hye
      obtain ⟨hec, h4, h5⟩ := hIc.robase j he' (by have := nth_lt ha; omega) hy
      obtain ⟨_, _, he1, h6, h7⟩ := wrB_spec hwa
      rw [hid] at h6
      obtain ⟨he0, h8, h9⟩ := hI.robase i he1 hi h6
      obtain ⟨pe, hpe⟩ := nth_some (l := φc) (n := j) (by have := nth_lt ha; omega)
      have hecro := ((hent1 j _ a pe h4 ha hpe).2 hec rfl).2 hwa
      exact ⟨he0, h8, by rw [h9, h7, ← hro', ← h5, hecro]⟩
    · rw [hh] at h2
      exact hI.robase i he hi h2.symm
  · -- newro
    have hh : nth H2 i = some (some he) := hh
    rcases hcase i (nth_lt hh) with hil | ⟨k, hk, rfl⟩
    · rcases hold i hil with ⟨j, a, ha, hwa, hid, h1, h2, h3⟩ | ⟨_, _, h2⟩
      · rw [hh] at h2
        obtain ⟨y, hy, hye⟩ := Option.map_eq_some_iff.1 h2.symm
        obtain ⟨he', rfl, hro'⟩ := hxro hye
        obtain ⟨hec, h4, h5⟩ := hIc.robase j he' (by have := nth_lt ha; omega) hy
        obtain ⟨pe, hpe⟩ := nth_some (l := φc) (n := j) (by have := nth_lt ha; omega)
        have hecro := ((hent1 j _ a pe h4 ha hpe).2 hec rfl).2 hwa
        rw [← hro', ← h5, hecro]
      · rw [hh] at h2
        exact hI.newro i he hi h2.symm
    · have h2 := hHnew k hk
      rw [hh] at h2
      obtain ⟨y, hy, hye⟩ := Option.map_eq_some_iff.1 h2.symm
      obtain ⟨he', rfl, hro'⟩ := hxro hye
      rw [← hro']
      exact hIc.newro k he' (by omega) hy
  · -- fresh
    have wb0 : ∀ b, WB φc Hc w b → WB φ0 H0 w0 b := fun b hb => by
      rcases hwbc b hb with h5 | ⟨id, L0, he0, h5, h6, h7, h8, _⟩
      · exact .inl (Nat.le_trans hI.size h5)
      · rw [← h6]; exact hI.wb hl0 h5 h7 h8
    rcases hcase i (by have := nth_lt ha; omega) with hil | ⟨k, hk, rfl⟩
    · rcases hold i hil with ⟨j, a, haa, hwa, hid, h1, h2, h3⟩ | ⟨_, h1, _⟩
      · rw [ha] at h1
        refine hI.fresh i L hi ?_
        obtain ⟨pe, hpe⟩ := nth_some (l := φc) (n := j) (by have := nth_lt haa; omega)
        rcases hIc.base j pe hpe with h8 | h8
        · rw [← h1] at h8; cases h8; rw [h3, hpe]
        · rw [← h1] at h8; cases h8
      · rw [ha] at h1
        exact hI.fresh i L hi h1.symm
    · have h1 := hφnew k hk
      rw [hn, ha] at h1
      exact wb0 _ (hIc.fresh k L (by omega) h1.symm)
  · -- same
    rw [hIc.same b (fun hwb => hb ?_)]
    · exact hI.same b hb
    · rcases hwbc b hwb with h5 | ⟨id, L0, he0, h5, h6, h7, h8, _⟩
      · exact .inl (Nat.le_trans hI.size h5)
      · rw [← h6]; exact hI.wb hl0 h5 h7 h8
end
end Go.Eng
