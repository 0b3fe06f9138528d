import Derived.Test.YtflmjaehnbnjnaaEngS
import Derived.LoopN
set_option linter.all false
namespace Go.Eng
open Go Go.RowKit

section
variable {E : Env} {R : Type}

def svBelow (m : Nat) : SV → Bool
  | .ptr id _ _ => Nat.blt id m
  | .slc id _ _ => Nat.blt id m
  | .fn _ caps => caps.all fun c => Nat.blt c.1 m
  | _ => true

def baseOk (m : Nat) (H : Hp E) : Bool := (H.take m).all fun
  | some he => match he.b with
    | .exp _ l => !he.ro || l.all (svBelow m)
    | .rows _ => true
    | .frz _ => true
  | none => true

def optSVs : Option AV → List SV
  | some v => avSVs v
  | none => []

def selOf (m : Nat) (vs : List (Option AV)) (H : Hp E) : List Nat := metIds E H m fuelMet (vs.flatMap optSVs ++ heapSVs E (H.take m)) []

def sweepVK (m : Nat) (vs : List (Option AV)) (H : Hp E) (K : List (Option AV) → Hp E → Option R) : Option R :=
  (fun sel => cond (nodupB sel && sel.all (fun id => Nat.ble m id && Nat.blt id H.length) && baseOk m H && Nat.ble m H.length)
    (K (vs.map (Option.map (mapAV (selSV m sel)))) (selHeap E m sel H)) none) (selOf m vs H)

theorem idxIn_spec {id : Nat} : ∀ {sel : List Nat} {i j : Nat}, idxIn id sel i = some j → i ≤ j ∧ nth sel (j - i) = some id
  | [], _, _, h => by cases h
  | x :: l, i, j, h => by
    unfold idxIn at h
    cases hb : Nat.beq x id with
    | true =>
      rw [hb] at h; cases h
      refine ⟨Nat.le_refl _, ?_⟩
      rw [Nat.sub_self, Nat.eq_of_beq_eq_true hb]; rfl
    | false =>
      rw [hb] at h
      obtain ⟨h1, h2⟩ := idxIn_spec (i := i + 1) h
      refine ⟨by omega, ?_⟩
      rw [show j - i = (j - (i + 1)) + 1 from by omega]
      exact h2

theorem nodupB_spec : ∀ {l : List Nat}, nodupB l = true → ∀ i j x, nth l i = some x → nth l j = some x → i = j
  | [], _, i, _, _, h, _ => by cases h
  | a :: l, h, i, j, x, hi, hj => by
    simp only [nodupB, Bool.and_eq_true, Bool.not_eq_true'] at h
    have hno : ∀ k y, nth l k = some y → y ≠ a := fun k y hk e => by
      have : l.any (Nat.beq a) = true := List.any_eq_true.2 ⟨y, nth_mem hk, by rw [e]; exact Nat.beq_refl a⟩
      rw [h.1] at this; cases this
    cases i with
    | zero =>
      cases hi
      cases j with
      | zero => rfl
      | succ j => exact absurd rfl (hno j _ hj)
    | succ i =>
      cases j with
      | zero => cases hj; exact absurd rfl (hno i _ hi)
      | succ j => exact congrArg _ (nodupB_spec h.2 i j x hi hj)

def selPhi (m : Nat) (sel : List Nat) (φ : List PE) : List PE := φ.take m ++ sel.map fun id => (nth φ id).getD .dead

section
variable {φ0 : List PE} {H0 : Hp E} {w0 : World} {φ : List PE} {H : Hp E} {w : World} {m : Nat} {sel : List Nat}

theorem selPhi_low {i : Nat} (hm : m ≤ φ.length) (hi : i < m) : nth (selPhi m sel φ) i = nth φ i := by
  unfold selPhi
  rw [nth_append, if_pos (by rw [List.length_take]; omega), nth_take, if_pos hi]

theorem selPhi_high {i : Nat} (hm : m ≤ φ.length) (hi : m ≤ i) : nth (selPhi m sel φ) i = (nth sel (i - m)).map fun id => (nth φ id).getD .dead := by
  unfold selPhi
  rw [nth_append, if_neg (by rw [List.length_take]; omega), nth_map, List.length_take, Nat.min_eq_left hm]

theorem selId_phi {id j : Nat} (hm : m ≤ φ.length) (hlt : ∀ x ∈ sel, x < φ.length) (h : selId m sel id = some j) : nth (selPhi m sel φ) j = nth φ id := by
  unfold selId at h
  cases hb : Nat.blt id m with
  | true =>
    rw [hb] at h; cases h
    exact selPhi_low hm (by simpa [Nat.blt_eq] using hb)
  | false =>
    rw [hb] at h
    obtain ⟨h1, h2⟩ := idxIn_spec h
    rw [selPhi_high hm h1, h2]
    obtain ⟨pe, hpe⟩ := nth_some (hlt id (nth_mem h2))
    simp [hpe]

theorem sel_ren (hm : m ≤ φ.length) (hlt : ∀ x ∈ sel, x < φ.length) : RenOk (selSV m sel) φ (selPhi m sel φ) := fun s v hs => by
  cases s with
  | ptr id row fld =>
    have hr : RP φ id row fld v := hs
    show RS _ (match selId m sel id with | some j => .ptr j row fld | none => .top) v
    cases hj : selId m sel id with
    | none => exact hr.1
    | some j => exact ⟨hr.1, by rw [selId_phi hm hlt hj]; exact hr.2⟩
  | slc id w nl =>
    show RS _ (match selId m sel id with | some j => .slc j w nl | none => .top) v
    cases hj : selId m sel id with
    | none => exact hs.1
    | some j => exact ⟨hs.1, by rw [selId_phi hm hlt hj]; exact hs.2⟩
  | fn f caps =>
    show RS _ (cond (caps.all fun c => (selId m sel c.1).isSome) (.fn f (caps.map fun c => ((selId m sel c.1).getD 0, c.2))) .top) v
    obtain ⟨cv, rfl, hcv⟩ := hs
    cases hall : (caps.all fun c => (selId m sel c.1).isSome) with
    | false => exact rfl
    | true =>
      refine ⟨cv, rfl, All2.map_left ?_⟩
      rw [List.all_eq_true] at hall
      induction caps generalizing cv with
      | nil => cases cv <;> first | trivial | exact hcv.elim
      | cons c caps ih =>
        cases cv with
        | nil => exact hcv.elim
        | cons v cv =>
          refine ⟨?_, ih cv hcv.2 (fun x hx => hall x (by simp [hx]))⟩
          have hc := hall c (by simp)
          obtain ⟨j, hj⟩ := Option.isSome_iff_exists.1 hc
          have hr : RP φ c.1 c.2.1 c.2.2 v := hcv.1
          show RP _ ((selId m sel c.1).getD 0) _ _ _
          rw [hj]
          exact ⟨hr.1, by simp only [Option.getD_some]; rw [selId_phi hm hlt hj]; exact hr.2⟩
  | bool b => exact hs
  | int k n => exact hs
  | str s => exact hs
  | nilp => exact hs
  | nilf => exact hs
  | nili => exact hs
  | top => exact hs

theorem selSV_below {s : SV} (h : svBelow m s = true) : selSV m sel s = s := by
  have key : ∀ id, Nat.blt id m = true → selId m sel id = some id := fun id hb => by unfold selId; rw [hb]; rfl
  cases s with
  | ptr id row fld => show (match selId m sel id with | some j => SV.ptr j row fld | none => .top) = _; rw [key id h]
  | slc id w nl => show (match selId m sel id with | some j => SV.slc j w nl | none => .top) = _; rw [key id h]
  | fn f caps =>
    have h : (caps.all fun c => Nat.blt c.1 m) = true := h
    rw [List.all_eq_true] at h
    show cond (caps.all fun c => (selId m sel c.1).isSome) (SV.fn f (caps.map fun c => ((selId m sel c.1).getD 0, c.2))) .top = _
    have h1 : (caps.all fun c => (selId m sel c.1).isSome) = true := List.all_eq_true.2 fun c hc => by rw [key c.1 (h c hc)]; rfl
    rw [h1]
    have h2 : (caps.map fun c => ((selId m sel c.1).getD 0, c.2)) = caps := by
      conv => rhs; rw [← List.map_id caps]
      refine List.map_congr_left fun c hc => ?_
      rw [key c.1 (h c hc)]; rfl
    rw [h2]; rfl
  | bool b => rfl
  | int k n => rfl
  | str s => rfl
  | nilp => rfl
  | nilf => rfl
  | nili => rfl
  | top => rfl

theorem selHeap_low {i : Nat} (hm : m ≤ H.length) (hi : i < m) : nth (selHeap E m sel H) i = (nth H i).map (Option.map (mapHE E (selSV m sel))) := by
  unfold selHeap
  rw [nth_map, nth_append, if_pos (by rw [List.length_take]; omega), nth_take, if_pos hi]

theorem selHeap_high {i : Nat} (hm : m ≤ H.length) (hi : m ≤ i) : nth (selHeap E m sel H) i = (nth sel (i - m)).map fun id => ((nth H id).getD none).map (mapHE E (selSV m sel)) := by
  unfold selHeap
  rw [nth_map, nth_append, if_neg (by rw [List.length_take]; omega), nth_map, List.length_take, Nat.min_eq_left hm, Option.map_map]
  rfl

theorem selHeap_length (hm : m ≤ H.length) : (selHeap E m sel H).length = m + sel.length := by
  unfold selHeap
  simp only [List.length_map, List.length_append, List.length_take]
  omega

theorem Inv.sweep (ok : EnvOk E) (hI : Inv φ0 H0 w0 φ H w) (hl : φ0.length = H0.length) (hm0 : m = H0.length) (hnd : nodupB sel = true) (hsel : ∀ x ∈ sel, m ≤ x ∧ x < H.length) (hbase : baseOk m H = true) :
    Inv φ0 H0 w0 (selPhi m sel φ) (selHeap E m sel H) w ∧ RenOk (selSV m sel) φ (selPhi m sel φ) := by
  have hlen := hI.rh.len
  have hmH : m ≤ H.length := by rw [hm0]; exact hI.hle
  have hmφ : m ≤ φ.length := by omega
  have hlt : ∀ x ∈ sel, x < φ.length := fun x hx => by have := (hsel x hx).2; omega
  have hren := sel_ren (φ := φ) hmφ hlt
  -- where an entry of the new heap comes from
  have src : ∀ i, i < m + sel.length → ∃ id, id < H.length ∧ nth (selPhi m sel φ) i = nth φ id ∧ nth (selHeap E m sel H) i = (nth H id).map (Option.map (mapHE E (selSV m sel))) ∧ ((i < m ∧ id = i) ∨ (m ≤ i ∧ nth sel (i - m) = some id)) := fun i hi => by
    rcases Nat.lt_or_ge i m with h1 | h1
    · exact ⟨i, by omega, selPhi_low hmφ h1, selHeap_low hmH h1, .inl ⟨h1, rfl⟩⟩
    · obtain ⟨id, hid⟩ := nth_some (l := sel) (n := i - m) (by omega)
      have h2 := hsel id (nth_mem hid)
      obtain ⟨pe, hpe⟩ := nth_some (l := φ) (n := id) (by omega)
      obtain ⟨x, hx⟩ := nth_some (l := H) (n := id) h2.2
      refine ⟨id, h2.2, ?_, ?_, .inr ⟨h1, hid⟩⟩
      · rw [selPhi_high hmφ h1, hid, hpe]; simp [hpe]
      · rw [selHeap_high hmH h1, hid, hx]; simp [hx]
  have src_ne : ∀ i j a b, i ≠ j → ((i < m ∧ a = i) ∨ (m ≤ i ∧ nth sel (i - m) = some a)) → ((j < m ∧ b = j) ∨ (m ≤ j ∧ nth sel (j - m) = some b)) → a ≠ b := fun i j a b hne h1 h2 e => by
    subst e
    rcases h1 with ⟨h1, h3⟩ | ⟨h1, h3⟩ <;> rcases h2 with ⟨h2, h4⟩ | ⟨h2, h4⟩
    · omega
    · have := (hsel _ (nth_mem h4)).1; omega
    · have := (hsel _ (nth_mem h3)).1; omega
    · have := nodupB_spec hnd _ _ _ h3 h4; omega
  have hφl : (selPhi m sel φ).length = m + sel.length := by
    unfold selPhi
    simp only [List.length_append, List.length_take, List.length_map]; omega
  have hHl := selHeap_length (sel := sel) hmH
  have hxro : ∀ {x : Option (HE E)} {he : HE E}, x.map (mapHE E (selSV m sel)) = some he → ∃ he', x = some he' ∧ he'.ro = he.ro := fun {x he} e => by
    cases x with
    | none => cases e
    | some he' => cases e; exact ⟨he', rfl, (mapHE_ro _ he').symm⟩
  have hget : ∀ i he, nth (selHeap E m sel H) i = some (some he) → ∃ id he', nth H id = some (some he') ∧ he'.ro = he.ro ∧ nth (selPhi m sel φ) i = nth φ id ∧ ((i < m ∧ id = i) ∨ (m ≤ i ∧ nth sel (i - m) = some id)) := fun i he hh => by
    obtain ⟨id, hid, h1, h2, h3⟩ := src i (by have := nth_lt hh; omega)
    rw [hh] at h2
    obtain ⟨y, hy, hye⟩ := Option.map_eq_some_iff.1 h2.symm
    obtain ⟨he', rfl, hro⟩ := hxro hye
    exact ⟨id, he', hy, hro, h1, h3⟩
  refine ⟨⟨⟨by rw [hφl, hHl], fun i pe x hp hx => ?_, fun i j L L' he hne hi hj hh hro => ?_⟩, fun i pe hp => ?_, by rw [hHl]; omega, fun i he h0 hr => ?_, fun i he hi hh => ?_, fun i he hi hh => ?_, fun i L hi hL => ?_, hI.calm, hI.size, hI.same⟩, hren⟩
  · obtain ⟨id, hid, h1, h2, _⟩ := src i (by have := nth_lt hx; omega)
    rw [hp] at h1
    rw [hx] at h2
    obtain ⟨y, hy, rfl⟩ := Option.map_eq_some_iff.1 h2.symm
    exact hren.ent ok (hI.rh.ent id pe y h1.symm hy)
  · obtain ⟨id, he', h1, h2, h3, h4⟩ := hget i he hh
    obtain ⟨id2, _, h5, _, h6⟩ := src j (by have := nth_lt hj; omega)
    rw [hi] at h3
    rw [hj] at h5
    exact hI.rh.inj id id2 L L' he' (src_ne i j id id2 hne h4 h6) h3.symm h5.symm h1 (h2.trans hro)
  · have hi : i < m := by have := nth_lt hp; omega
    rw [selPhi_low hmφ hi]
    exact hI.base i pe hp
  · have hi : i < m := by have := nth_lt h0; omega
    have h1 := hI.rosame i he h0 hr
    rw [selHeap_low hmH hi, h1]
    obtain ⟨ro, b⟩ := he
    cases b with
    | rows b => rfl
    | frz b => rfl
    | exp ty l =>
      have hr : ro = true := hr
      subst hr
      have hb : l.all (svBelow m) = true := by
        unfold baseOk at hbase
        rw [List.all_eq_true] at hbase
        have := hbase (some ⟨true, .exp ty l⟩) (nth_mem (n := i) (by rw [nth_take, if_pos hi]; exact h1))
        simpa using this
      show some (some (⟨true, .exp ty (l.map (selSV m sel))⟩ : HE E)) = _
      have : l.map (selSV m sel) = l := by
        conv => rhs; rw [← List.map_id l]
        rw [List.all_eq_true] at hb
        exact List.map_congr_left fun s hs => selSV_below (hb s hs)
      rw [this]
  · obtain ⟨id, he', h1, h2, _, h4⟩ := hget i he hh
    rcases h4 with ⟨_, rfl⟩ | ⟨h4, _⟩
    · obtain ⟨he0, h5, h6⟩ := hI.robase id he' hi h1
      exact ⟨he0, h5, h6.trans h2⟩
    · omega
  · obtain ⟨id, he', h1, h2, _, h4⟩ := hget i he hh
    rcases h4 with ⟨h4, _⟩ | ⟨_, h4⟩
    · omega
    · rw [← h2]
      exact hI.newro id he' (by have := (hsel _ (nth_mem h4)).1; omega) h1
  · obtain ⟨id, _, h1, _, h4⟩ := src i (by have := nth_lt hL; omega)
    rw [hL] at h1
    rcases h4 with ⟨h4, _⟩ | ⟨_, h4⟩
    · omega
    · exact hI.fresh id L (by have := (hsel _ (nth_mem h4)).1; omega) h1.symm
end

theorem sweepVK_ok (ok : EnvOk E) {m : Nat} {vs : List (Option AV)} {H : Hp E} {K : List (Option AV) → Hp E → Option R} {r : R} (h : sweepVK m vs H K = some r) :
    ∃ vs' H', K vs' H' = some r ∧ vs'.length = vs.length ∧ ∀ (φ0 : List PE) (H0 : Hp E) (w0 : World) (φ : List PE) (w : World), φ0.length = H0.length → H0.length = m → Inv φ0 H0 w0 φ H w →
      ∃ φ', Inv φ0 H0 w0 φ' H' w ∧ ∀ k av v, nth vs k = some (some av) → RA φ av v → ∃ av', nth vs' k = some (some av') ∧ RA φ' av' v := by
  unfold sweepVK at h
  obtain ⟨hc, h⟩ := cond_none_right h
  simp only [Bool.and_eq_true, List.all_eq_true] at hc
  obtain ⟨⟨⟨hnd, hsel⟩, hb⟩, _⟩ := hc
  refine ⟨_, _, h, by simp, fun φ0 H0 w0 φ w hl hm hI => ?_⟩
  obtain ⟨hI', hren⟩ := hI.sweep ok hl hm.symm hnd (fun x hx => by
    have := hsel x hx
    simp only [Nat.blt_eq] at this
    exact ⟨Nat.le_of_ble_eq_true this.1, this.2⟩) hb
  refine ⟨_, hI', fun k av v hk hv => ⟨_, ?_, hren.av hv⟩⟩
  rw [nth_map, hk]; rfl

theorem sweepVK_back (ok : EnvOk E) {m : Nat} {vs : List (Option AV)} {H : Hp E} {K : List (Option AV) → Hp E → Option R} {r : R} (h : sweepVK m vs H K = some r) :
    ∃ vs' H', K vs' H' = some r ∧ vs'.length = vs.length ∧ ∀ (φ0 : List PE) (H0 : Hp E) (w0 : World) (φ : List PE) (w : World), φ0.length = H0.length → H0.length = m → Inv φ0 H0 w0 φ H w →
      ∃ φ', Inv φ0 H0 w0 φ' H' w ∧ ∀ k av', nth vs' k = some (some av') → ∃ av, nth vs k = some (some av) ∧ ∀ v, RA φ av v → RA φ' av' v := by
  unfold sweepVK at h
  obtain ⟨hc, h⟩ := cond_none_right h
  simp only [Bool.and_eq_true, List.all_eq_true] at hc
  obtain ⟨⟨⟨hnd, hsel⟩, hb⟩, _⟩ := hc
  refine ⟨_, _, h, by simp, fun φ0 H0 w0 φ w hl hm hI => ?_⟩
  obtain ⟨hI', hren⟩ := hI.sweep ok hl hm.symm hnd (fun x hx => by
    have := hsel x hx
    simp only [Nat.blt_eq] at this
    exact ⟨Nat.le_of_ble_eq_true this.1, this.2⟩) hb
  refine ⟨_, hI', fun k av' hk => ?_⟩
  rw [nth_map] at hk
  obtain ⟨x, hx, hxe⟩ := Option.map_eq_some_iff.1 hk
  cases x with
  | none => cases hxe
  | some av => cases hxe; exact ⟨av, hx, fun v hv => hren.av hv⟩
end
end Go.Eng
