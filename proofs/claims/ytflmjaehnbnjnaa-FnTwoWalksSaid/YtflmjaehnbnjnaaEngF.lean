import Derived.Test.YtflmjaehnbnjnaaEngE
import Derived.Laws.StructEq
import Derived.Laws.BytesString
import Derived.Laws.Slices
import Derived.Laws.Small
import Derived.Lib.SliceRun
import Derived.Lib.ConvBytes
set_option linter.all false
namespace Go.Eng
open Go Go.RowKit

section
variable {E : Env} {R : Type}

theorem nilCheck_ok {o : Oper} {F : Fr} {H : Hp E} {x : Operand} {s : SV} (ho : o.op = .nilCheck x) (hx : ev F x = some (.sc s)) (hs : (∃ id row fld, s = .ptr id row fld) ∨ ∃ f c, s = .fn f c)
    (hal : ∀ id row fld, s = .ptr id row fld → ∃ he, nth H id = some (some he)) : RunOk E o F H (.sc s) H := RunOk.pure fun φ a w hr hF => by
  have hv : RS φ s (a.eval x) := ev_ok hx hF
  refine ⟨a.eval x, ?_, hv⟩
  have hex : execOp a.eval o = Pure.pure (.value (a.eval x)) := by
    unfold execOp
    rw [ho]
    rcases hs with ⟨id, row, fld, rfl⟩ | ⟨f, c, rfl⟩
    · obtain ⟨he, hh⟩ := hal _ _ _ rfl
      obtain ⟨L, _, _, hp⟩ := RP.loc hr hv hh
      simp only [hp]
    · obtain ⟨cv, hc, _⟩ := hv
      simp only [hc]
  rw [hex]
  rfl

theorem intBin_ok {op : BinOp} {k : IntKind} {a b : Int} {K : SV → Option R} {r : R} (h : intBin op k a b K = some r) (hs : op ≠ .shl ∧ op ≠ .shr) (P : Program) (t : TypeId) :
    ∃ s v, K s = some r ∧ (∀ φ, RS φ s v) ∧ ∀ w, (binOp op t (.int k a) (.int k b)).run P w = .ok v w := by
  obtain ⟨h1, h2⟩ := hs
  cases op <;> simp only [intBin] at h <;> first
    | exact absurd rfl h1
    | exact absurd rfl h2
    | (refine ⟨_, _, h, fun φ => rfl, fun w => ?_⟩
       simp [binOp, Op.intArith, Op.intBits, Op.intCmp]
       done)
    | (obtain ⟨hb, h⟩ := cond_none_left h
       have hb : b ≠ 0 := by simpa using hb
       refine ⟨_, _, h, fun φ => rfl, fun w => ?_⟩
       simp [binOp, Op.intDiv, hb]
       done)
    | cases h

theorem shiftK_ok {op : BinOp} {k yk : IntKind} {a b : Int} {K : SV → Option R} {r : R} (h : shiftK op k a b K = some r) (P : Program) (t : TypeId) (hs : op = .shl ∨ op = .shr) :
    ∃ s v, K s = some r ∧ (∀ φ, RS φ s v) ∧ ∀ w, (binOp op t (.int k a) (.int yk b)).run P w = .ok v w := by
  unfold shiftK at h
  obtain ⟨hb, h⟩ := cond_none_left h
  have hb : ¬ b < 0 := by simpa using hb
  rcases hs with rfl | rfl
  · refine ⟨_, _, h, fun φ => rfl, fun w => ?_⟩
    simp [binOp, Op.shift, hb]
  · refine ⟨_, _, h, fun φ => rfl, fun w => ?_⟩
    simp [binOp, Op.shift, hb]

theorem eqGuard_pass (op : BinOp) (t : TypeId) (x y : Operand) {a b : Value} (h : ∀ l, a ≠ .agg l) (h2 : a ≠ .nilIface) (P : Program) (w : World) : (eqGuard op t x y a b).run P w = .ok () w := by
  unfold eqGuard
  cases a <;> first | exact absurd rfl (h _) | exact absurd rfl h2 | (split <;> rfl)

theorem bytes_beq (a b : ByteArray) : (a.toList == b.toList) = decide (a = b) := by
  rw [ByteArray.toList_eq, ByteArray.toList_eq]
  obtain ⟨⟨x⟩⟩ := a
  obtain ⟨⟨y⟩⟩ := b
  rw [Bool.eq_iff_iff]
  simp

theorem eqFields_ok {P : Program} {φ : List PE} {gs : List Field} {shs : List Shp} {cs ds : Array Value} {d : Nat}
    (hg : ∀ (j : Nat) (g : Field), gs[j]? = some g → g.name ≠ "_" ∧ g.offset = j ∧ ∃ dg s, P.underlying g.type = some dg ∧ nth shs j = some s ∧ shpOk P dg s) (w : World) :
    ∀ (fs : List Field) (ss : List Shp) (j : Nat) (l m : List SV) (b : Bool), gs.drop j = fs → shs.drop j = ss → (∀ i s, nth l i = some s → ∃ v, cs[j + i]? = some v ∧ RS φ s v) → (∀ i s, nth m i = some s → ∃ v, ds[j + i]? = some v ∧ RS φ s v) →
      ss.length = fs.length → eqCells ss l m = some b → (Op.eqFields (d + 1) cs ds fs).run P w = .ok b w := by
  intro fs
  induction fs with
  | nil =>
    intro ss j l m b _ _ _ _ hl he
    have : ss = [] := by simpa using hl
    subst this
    cases l <;> cases m <;> first | (cases he; rfl) | cases he
  | cons f fs ih =>
    intro ss j l m b hd hsd hc hdd hl he
    cases ss with
    | nil => simp at hl
    | cons sh ss =>
      have hfj : gs[j]? = some f := by
        have := congrArg (fun x => x[0]?) hd
        simpa using this
      have hsj : nth shs j = some sh := by
        have := congrArg (fun x => x[0]?) hsd
        rw [nth_eq]
        simpa using this
      obtain ⟨hname, hoff, dg, s0, hu, hs0, hdg⟩ := hg j f hfj
      rw [hsj] at hs0; cases hs0
      have hrest : ∀ (s s' : SV) l m b', l = l → (∀ i x, nth (s :: l) i = some x → ∃ v, cs[j + i]? = some v ∧ RS φ x v) → (∀ i x, nth (s' :: m) i = some x → ∃ v, ds[j + i]? = some v ∧ RS φ x v) →
          eqCells ss l m = some b' → (Op.eqFields (d + 1) cs ds fs).run P w = .ok b' w := fun s s' l m b' _ hc hdd he' =>
        ih ss (j + 1) l m b' (by rw [← List.drop_drop, hd]; rfl) (by rw [← List.drop_drop, hsd]; rfl)
          (fun i s hi => by have := hc (i + 1) s hi; rwa [show j + (i + 1) = j + 1 + i from by omega] at this)
          (fun i s hi => by have := hdd (i + 1) s hi; rwa [show j + (i + 1) = j + 1 + i from by omega] at this) (by simpa using hl) he'
      have hpart : ∀ (xs : Array Value) v, xs[j]? = some v → aggOf dg = false → (part f.type xs f.offset).run P w = .ok v w := fun xs v hv hag => by
        unfold part
        simp only [Sem.run_bind, run_isAgg' hu, hag, Result.andThen_ok, Bool.false_eq_true, if_false]
        rw [hoff, hv]; rfl
      have hgo : ∀ v v' b1 b2, cs[j]? = some v → ds[j]? = some v' → aggOf dg = false → (Op.equalIn (d + 1) f.type v v').run P w = .ok b1 w → (Op.eqFields (d + 1) cs ds fs).run P w = .ok b2 w →
          (Op.eqFields (d + 1) cs ds (f :: fs)).run P w = .ok (b1 && b2) w := fun v v' b1 b2 hv hv' hag h1 h2 => by
        simp only [Op.eqFields, if_pos hname, Sem.run_bind, hpart cs v hv hag, hpart ds v' hv' hag, h1, Result.andThen_ok]
        cases b1
        · rfl
        · simpa using h2
      unfold eqCells at he
      split at he
      · cases ‹_ :: _ = []›
      · rename_i k fs' k1 x l' k2 y m' heq
        injection heq with e1 e2
        subst e1; subst e2
        split at he
        · rename_i b2 hb2
          obtain ⟨hk, he⟩ := cond_none_right he
          cases he
          have hk : k1 = k2 := by simpa using hk
          obtain ⟨v, hv, rfl⟩ := hc 0 _ rfl
          obtain ⟨v', hv', rfl⟩ := hdd 0 _ rfl
          have hdg : dg = .int k := hdg
          subst hdg
          refine hgo _ _ _ _ (by simpa using hv) (by simpa using hv') rfl ?_ (hrest _ _ _ _ _ rfl hc hdd hb2)
          simp [Op.equalIn, run_underlying' hu, hk]
        · cases he
      · rename_i fs' x l' y m' heq
        injection heq with e1 e2
        subst e1; subst e2
        split at he
        · rename_i b2 hb2
          cases he
          obtain ⟨v, hv, rfl⟩ := hc 0 _ rfl
          obtain ⟨v', hv', rfl⟩ := hdd 0 _ rfl
          have hdg : dg = .bool := hdg
          subst hdg
          refine hgo _ _ _ _ (by simpa using hv) (by simpa using hv') rfl ?_ (hrest _ _ _ _ _ rfl hc hdd hb2)
          simp [Op.equalIn, run_underlying' hu]
        · cases he
      · rename_i fs' x l' y m' heq
        injection heq with e1 e2
        subst e1; subst e2
        split at he
        · rename_i b2 hb2
          cases he
          obtain ⟨v, hv, rfl⟩ := hc 0 _ rfl
          obtain ⟨v', hv', rfl⟩ := hdd 0 _ rfl
          have hdg : dg = .string := hdg
          subst hdg
          refine hgo _ _ _ _ (by simpa using hv) (by simpa using hv') rfl ?_ (hrest _ _ _ _ _ rfl hc hdd hb2)
          rw [← bytes_beq, ← beq_toListBytes]
          simp [Op.equalIn, run_underlying' hu]
        · cases he
      · cases he

theorem eqAgg_ok (ok : EnvOk E) {t : TypeId} {ti : TI} {fs : List Shp} {l m : List SV} {b : Bool} (hti : E.ty t = some ti) (hfs : ti.eqv = some fs) (he : eqCells fs l m = some b)
    {φ : List PE} {cs ds : List Value} (hc : All2 (RS φ) l cs) (hd : All2 (RS φ) m ds) (w : World) :
    (Op.equalIn 10000 t (.agg cs.toArray) (.agg ds.toArray)).run E.P w = .ok b w ∧ ∀ op x y, (eqGuard op t x y (.agg cs.toArray) (.agg ds.toArray)).run E.P w = .ok () w := by
  obtain ⟨inf, d, hi, hu, hsz, hby, hag, hshp, hz, heqv⟩ := (ty_ok ok hti).ok
  obtain ⟨hheld, hguard, gs, rfl, hgs, hall⟩ := heqv fs hfs
  have hf : E.P.fieldsOf t = gs := by simp [Program.fieldsOf, hu]
  refine ⟨?_, fun op x y => run_eqGuard_agg w op t x y _ _ hguard⟩
  rw [run_equalIn_struct (P := E.P) w 9999 t _ _ (by rw [hf]; exact hu) hheld, hf]
  refine eqFields_ok (φ := φ) (gs := gs.toList) (shs := fs) (fun j g hj => hall j g (by simpa using hj)) w gs.toList fs 0 l m b rfl rfl (fun i s hs => ?_) (fun i s hs => ?_) (by simpa using hgs.symm) he
  · obtain ⟨v, hv, hr⟩ := hc.nth hs
    exact ⟨v, by simpa using hv, hr⟩
  · obtain ⟨v, hv, hr⟩ := hd.nth hs
    exact ⟨v, by simpa using hv, hr⟩

theorem isNilSlice_spec {y : Operand} (h : isNilSlice y = true) : ∃ n c, y = .const (.slice none n c) := by
  unfold isNilSlice at h
  split at h
  · exact ⟨_, _, rfl⟩
  · cases h

theorem aliveAV_slc {H : Hp E} {id : Nat} {win : Option (Nat × Nat × Nat)} {nl : Bool} (h : aliveAV E H (some (.sc (.slc id win nl))) = true) : ∃ he, nth H id = some (some he) := by
  unfold aliveAV at h
  split at h
  · rename_i heq
    cases heq
    split at h
    · rename_i he hh; exact ⟨he, hh⟩
    · cases h
  · rename_i hne
    exact (hne _ _ _ rfl).elim

theorem aliveK_some {H : Hp E} {id : Nat} {x : Option R} {r : R} (h : aliveK E H id x = some r) : (∃ he, nth H id = some (some he)) ∧ x = some r := by
  unfold aliveK at h
  split at h
  · rename_i he hh; exact ⟨⟨he, hh⟩, h⟩
  · cases h

theorem slc_shape {φ : List PE} {H : Hp E} {w : World} {id : Nat} {win : Option (Nat × Nat × Nat)} {nl : Bool} {v : Value} (h : RS φ (.slc id win nl) v) (hr : RH φ H w) (hal : ∃ he, nth H id = some (some he)) :
    ∃ a n c, v = .slice a n c ∧ a.isNone = nl := by
  obtain ⟨he, hh⟩ := hal
  obtain ⟨_, h2⟩ := h
  rcases hr.some_ hh with ⟨L, hL, _⟩ | ⟨hL, _⟩ | hL <;> rw [hL] at h2
  case inr.inr => exact h2.elim
  · obtain ⟨hnl, hs⟩ := h2
    unfold SlcAt at hs
    cases win with
    | none => obtain ⟨cap, rfl, _⟩ := hs; exact ⟨_, _, _, rfl, by rw [hnl]; rfl⟩
    | some x =>
      obtain ⟨r, n, e⟩ := x
      obtain ⟨off, cap, rfl, _⟩ := hs
      exact ⟨_, _, _, rfl, by rw [hnl]; rfl⟩
  · obtain ⟨rfl, hnl, _⟩ := h2
    exact ⟨_, _, _, rfl, by rw [hnl]; rfl⟩

theorem run_equal_bool {P : Program} {t : TypeId} (h : P.underlying t = some .bool) (a b : Bool) (w : World) : (Op.equal t (.bool a) (.bool b)).run P w = .ok (a == b) w := run_equalIn_bool' w 9999 t a b h

theorem binOp_ok (ok : EnvOk E) {o : Oper} {F : Fr} {H : Hp E} {op : BinOp} {t yt : TypeId} {x y : Operand} {K : AV → Hp E → Option R} {r : R} (ho : o.op = .binOp op t x y yt)
    (h : cond (aliveAV E H (ev F x)) (binK op (E.ty t) (ev F x) (ev F y) (isNilSlice y) fun v => K (.sc v) H) none = some r) : ∃ v H', K v H' = some r ∧ RunOk E o F H v H' := by
  obtain ⟨hal, h⟩ := cond_none_right h
  have hex : ∀ a : Act, execOp a.eval o = (do let z ← (do eqGuard op t x y (a.eval x) (a.eval y); binOp op t (a.eval x) (a.eval y)); Pure.pure (.value z)) := fun a => by unfold execOp; rw [ho]
  -- two values, neither nil nor structs, that give one value
  have key : ∀ s, K (.sc s) H = some r → (∀ (φ : List PE) (a : Act) (w : World), RH φ H w → RF φ F a.tmps →
      ∃ v, RS φ s v ∧ (eqGuard op t x y (a.eval x) (a.eval y)).run E.P w = .ok () w ∧ (binOp op t (a.eval x) (a.eval y)).run E.P w = .ok v w) → ∃ v H', K v H' = some r ∧ RunOk E o F H v H' := fun s hK hq =>
    ⟨.sc s, H, hK, RunOk.pure fun φ a w hr hF => by
      obtain ⟨v, hs, hg, hb⟩ := hq φ a w hr hF
      refine ⟨v, ?_, hs⟩
      rw [hex]
      simp only [Sem.run_bind, hg, hb, Result.andThen_ok, Sem.run_pure]⟩
  unfold binK at h
  split at h
  · rename_i k a k' b hx hy _h0
    obtain ⟨s, v, hK, hs, hrun⟩ := shiftK_ok (yk := k') h E.P t (.inl rfl)
    refine key s hK fun φ ac w hr hF => ?_
    obtain ex : ac.eval x = .int k a := ev_ok hx hF
    obtain ey : ac.eval y = .int k' b := ev_ok hy hF
    rw [ex, ey]
    exact ⟨v, hs φ, eqGuard_pass _ _ _ _ (fun _ e => by cases e) (fun e => by cases e) _ _, hrun w⟩
  · rename_i k a k' b hx hy _h0
    obtain ⟨s, v, hK, hs, hrun⟩ := shiftK_ok (yk := k') h E.P t (.inr rfl)
    refine key s hK fun φ ac w hr hF => ?_
    obtain ex : ac.eval x = .int k a := ev_ok hx hF
    obtain ey : ac.eval y = .int k' b := ev_ok hy hF
    rw [ex, ey]
    exact ⟨v, hs φ, eqGuard_pass _ _ _ _ (fun _ e => by cases e) (fun e => by cases e) _ _, hrun w⟩
  · rename_i k a k' b hn1 hn2 hx hy _h0
    obtain ⟨hk, h2⟩ := cond_none_right h
    have hk : k' = k := by have := of_decide_eq_true hk; exact this.symm
    obtain ⟨s, v, hK, hs, hrun⟩ := intBin_ok h2 ⟨hn1, hn2⟩ E.P t
    refine key s hK fun φ ac w hr hF => ?_
    obtain ex : ac.eval x = .int k a := ev_ok hx hF
    obtain ey : ac.eval y = .int k' b := ev_ok hy hF
    rw [ex, ey, hk]
    exact ⟨v, hs φ, eqGuard_pass _ _ _ _ (fun _ e => by cases e) (fun e => by cases e) _ _, hrun w⟩
  · rename_i a b hx hy _h0
    obtain ⟨hle, hK⟩ := cond_none_right h
    refine key _ hK fun φ ac w hr hF => ?_
    obtain ex : ac.eval x = .string a := ev_ok hx hF
    obtain ey : ac.eval y = .string b := ev_ok hy hF
    rw [ex, ey]
    refine ⟨_, rfl, eqGuard_pass _ _ _ _ (fun _ e => by cases e) (fun e => by cases e) _ _, ?_⟩
    have hle : a.size + b.size ≤ 2 ^ 63 - 1 := Nat.le_of_ble_eq_true hle
    have : ¬ (((a.size + b.size : Nat) : Int) > IntKind.i64.max) := by simp [IntKind.max, IntKind.signed, IntKind.bits]; omega
    simp only [binOp, Op.stringOp]
    rw [if_neg this]
    rfl
  · rename_i a b hx hy _h0
    refine key _ h fun φ ac w hr hF => ?_
    obtain ex : ac.eval x = .string a := ev_ok hx hF
    obtain ey : ac.eval y = .string b := ev_ok hy hF
    rw [ex, ey]
    refine ⟨_, rfl, eqGuard_pass _ _ _ _ (fun _ e => by cases e) (fun e => by cases e) _ _, ?_⟩
    rw [← bytes_beq]; rfl
  · rename_i a b hx hy _h0
    refine key _ h fun φ ac w hr hF => ?_
    obtain ex : ac.eval x = .string a := ev_ok hx hF
    obtain ey : ac.eval y = .string b := ev_ok hy hF
    rw [ex, ey]
    refine ⟨_, rfl, eqGuard_pass _ _ _ _ (fun _ e => by cases e) (fun e => by cases e) _ _, ?_⟩
    rw [← bytes_beq]; rfl
  · rename_i a b hx hy _h0
    obtain ⟨ti, hti, h⟩ := oK_some h
    obtain ⟨inf, d, hi, hu, hsz, hby, hag, hshp, _⟩ := (ty_ok ok hti).ok
    split at h
    · rename_i hsh
      rw [hsh] at hshp
      have hd : d = .bool := hshp
      subst hd
      refine key _ h fun φ ac w hr hF => ?_
      obtain ex : ac.eval x = .bool a := ev_ok hx hF
      obtain ey : ac.eval y = .bool b := ev_ok hy hF
      rw [ex, ey]
      refine ⟨_, rfl, eqGuard_pass _ _ _ _ (fun _ e => by cases e) (fun e => by cases e) _ _, ?_⟩
      simp only [binOp, Sem.run_bind, run_equal_bool hu, Result.andThen_ok, Sem.run_pure]
    · cases h
  · rename_i a b hx hy _h0
    obtain ⟨ti, hti, h⟩ := oK_some h
    obtain ⟨inf, d, hi, hu, hsz, hby, hag, hshp, _⟩ := (ty_ok ok hti).ok
    split at h
    · rename_i hsh
      rw [hsh] at hshp
      have hd : d = .bool := hshp
      subst hd
      refine key _ h fun φ ac w hr hF => ?_
      obtain ex : ac.eval x = .bool a := ev_ok hx hF
      obtain ey : ac.eval y = .bool b := ev_ok hy hF
      rw [ex, ey]
      refine ⟨_, rfl, eqGuard_pass _ _ _ _ (fun _ e => by cases e) (fun e => by cases e) _ _, ?_⟩
      simp only [binOp, Sem.run_bind, run_equal_bool hu, Result.andThen_ok, Sem.run_pure]
    · cases h
  · rename_i id win nl hx _h0
    obtain ⟨ti, hti, h⟩ := oK_some h
    obtain ⟨inf, d, hi, hu, hsz, hby, hag, hshp, _⟩ := (ty_ok ok hti).ok
    split at h
    · rename_i e hsh
      rw [hsh] at hshp
      have hd : d = .slice e := hshp
      subst hd
      obtain ⟨hny, hK⟩ := cond_none_right h
      obtain ⟨n', c', rfl⟩ := isNilSlice_spec hny
      refine key _ hK fun φ ac w hr hF => ?_
      obtain ⟨a', n, c, ex, hnl⟩ := slc_shape (ev_ok hx hF : RS φ (.slc id win nl) (ac.eval x)) hr (aliveAV_slc (by first | exact hal | (rw [hx] at hal; exact hal)))
      rw [ex]
      refine ⟨_, rfl, eqGuard_pass _ _ _ _ (fun _ e => by cases e) (fun e => by cases e) _ _, ?_⟩
      rw [← hnl]
      exact Lib.run_eql_slice_nil w t e a' n c n' c' hu
    · cases h
  · rename_i id win nl hx _h0
    obtain ⟨ti, hti, h⟩ := oK_some h
    obtain ⟨inf, d, hi, hu, hsz, hby, hag, hshp, _⟩ := (ty_ok ok hti).ok
    split at h
    · rename_i e hsh
      rw [hsh] at hshp
      have hd : d = .slice e := hshp
      subst hd
      obtain ⟨hny, hK⟩ := cond_none_right h
      obtain ⟨n', c', rfl⟩ := isNilSlice_spec hny
      refine key _ hK fun φ ac w hr hF => ?_
      obtain ⟨a', n, c, ex, hnl⟩ := slc_shape (ev_ok hx hF : RS φ (.slc id win nl) (ac.eval x)) hr (aliveAV_slc (by first | exact hal | (rw [hx] at hal; exact hal)))
      rw [ex]
      refine ⟨_, rfl, eqGuard_pass _ _ _ _ (fun _ e => by cases e) (fun e => by cases e) _ _, ?_⟩
      rw [← hnl]
      have := Lib.run_equalIn_slice_nil (P := E.P) w 9999 t e a' n c n' c' hu
      have h2 : (Op.equal t (.slice a' n c) (.slice none n' c')).run E.P w = .ok a'.isNone w := this
      show (binOp .neq t (.slice a' n c) (.slice none n' c')).run E.P w = _
      simp only [binOp, Sem.run_bind, h2, Result.andThen_ok, Sem.run_pure]
    · cases h
  · rename_i l m hx hy _h0
    obtain ⟨ti, hti, h⟩ := oK_some h
    obtain ⟨fs, hfs, h⟩ := oK_some h
    obtain ⟨b, hb, hK⟩ := oK_some h
    refine key _ hK fun φ ac w hr hF => ?_
    obtain ⟨cs, ex, hcs⟩ := ev_ok hx hF
    obtain ⟨ds, ey, hds⟩ := ev_ok hy hF
    obtain ⟨h1, h2⟩ := eqAgg_ok ok hti hfs hb hcs hds w
    rw [ex, ey]
    refine ⟨_, rfl, h2 _ _ _, ?_⟩
    rw [run_eql_struct, h1]; rfl
  · rename_i l m hx hy _h0
    obtain ⟨ti, hti, h⟩ := oK_some h
    obtain ⟨fs, hfs, h⟩ := oK_some h
    obtain ⟨b, hb, hK⟩ := oK_some h
    refine key _ hK fun φ ac w hr hF => ?_
    obtain ⟨cs, ex, hcs⟩ := ev_ok hx hF
    obtain ⟨ds, ey, hds⟩ := ev_ok hy hF
    obtain ⟨h1, h2⟩ := eqAgg_ok ok hti hfs hb hcs hds w
    rw [ex, ey]
    refine ⟨_, rfl, h2 _ _ _, ?_⟩
    rw [run_neq_struct, h1]; rfl
  · cases h
end
end Go.Eng
