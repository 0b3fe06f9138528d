import Derived.Test.YtflmjaehnbnjnaaEngN
import Derived.Tactics
set_option linter.all false
namespace Go.Eng
open Go Go.RowKit

section
variable {E : Env} {R : Type}

theorem argsK_ok (ok : EnvOk E) {F : Fr} : ∀ (xs : List Operand) (tys : List TypeId) (H : Hp E) (acc : List AV) (K : List AV → Hp E → Option R) (r : R), argsK E F tys xs H acc K = some r →
    ∃ l H1, K l H1 = some r ∧ ∀ (φ0 : List PE) (H0 : Hp E) (w0 : World) (φ : List PE) (a : Act) (w : World) (vs : List Value), Inv φ0 H0 w0 φ H w → RF φ F a.tmps → All2 (RA φ) acc.reverse vs →
      ∃ φ', Ext φ φ' ∧ Inv φ0 H0 w0 φ' H1 w ∧ All2 (RA φ') l (vs ++ xs.map a.eval) := by
  intro xs
  induction xs with
  | nil => intro tys H acc K r h; exact ⟨_, _, h, fun φ0 H0 w0 φ a w vs hI _ ha => ⟨φ, .refl _, hI, by simpa using ha⟩⟩
  | cons x xs ih =>
    intro tys H acc K r h
    obtain ⟨v, H1, h, hq⟩ := evK_ok ok h
    obtain ⟨l, H2, hK, hq2⟩ := ih _ _ _ _ _ h
    refine ⟨l, H2, hK, fun φ0 H0 w0 φ a w vs hI hF ha => ?_⟩
    obtain ⟨φ1, he1, hI1, hv⟩ := hq φ0 H0 w0 φ a w hI hF
    obtain ⟨φ2, he2, hI2, hl⟩ := hq2 φ0 H0 w0 φ1 a w (vs ++ [a.eval x]) hI1 (hF.ext he1) (by
      rw [List.reverse_cons]
      exact (ha.mono fun _ _ => RA.ext he1).append ⟨hv, trivial⟩)
    exact ⟨φ2, he1.trans he2, hI2, by simpa using hl⟩

theorem minMaxGo_ok {P : Program} (mx : Bool) (k : IntKind) (w : World) {φ : List PE} : ∀ (l : List AV) (a : Int) (vs : List Value) (s : SV), minMaxGo mx k a l = some s → All2 (RA φ) l vs →
    ∃ n, s = .int k n ∧ (vs.foldlM (if mx then Builtin.max2 else Builtin.min2) (Value.int k a)).run P w = .ok (.int k n) w := by
  intro l
  induction l with
  | nil =>
    intro a vs s h hv
    cases vs with
    | nil => cases h; exact ⟨a, rfl, rfl⟩
    | cons _ _ => exact hv.elim
  | cons x l ih =>
    intro a vs s h hv
    cases vs with
    | nil => exact hv.elim
    | cons v vs =>
      unfold minMaxGo at h
      split at h
      · rename_i heq; cases heq
      · rename_i k' b l' heq
        cases heq
        have hv1 : v = .int k' b := hv.1
        subst hv1
        obtain ⟨n, hs, hr⟩ := ih _ vs s h hv.2
        refine ⟨n, hs, ?_⟩
        rw [List.foldlM_cons]
        cases mx
        · simp only [Bool.false_eq_true, if_false, Builtin.min2, Sem.run_bind, Sem.run_pure, Result.andThen_ok] at hr ⊢
          simpa using hr
        · simp only [if_true, Builtin.max2, Sem.run_bind, Sem.run_pure, Result.andThen_ok] at hr ⊢
          simpa using hr
      · cases h

theorem builtinK_ok (ok : EnvOk E) {b : Builtin} {tys : List TypeId} {ty : TypeId} {H : Hp E} {args : List AV} {K : AV → Hp E → Option R} {r : R} {cs : Array Bool} (h : builtinK E b tys H args K = some r) :
    ∃ v H', K v H' = some r ∧ ∀ (φ0 : List PE) (H0 : Hp E) (w0 : World) (φ : List PE) (w : World) (vs : List Value), φ0.length = H0.length → Inv φ0 H0 w0 φ H w → All2 (RA φ) args vs →
      ∃ rv φ' w', (builtin b tys.toArray ty cs vs.toArray).run E.P w = .ok (.value rv) w' ∧ Ext φ φ' ∧ Inv φ0 H0 w0 φ' H' w' ∧ RA φ' v rv := by
  have hpure : ∀ v, K v H = some r → (∀ (φ : List PE) (w : World) (vs : List Value), RH φ H w → All2 (RA φ) args vs → ∃ rv, (builtin b tys.toArray ty cs vs.toArray).run E.P w = .ok (.value rv) w ∧ RA φ v rv) →
      ∃ v H', K v H' = some r ∧ ∀ (φ0 : List PE) (H0 : Hp E) (w0 : World) (φ : List PE) (w : World) (vs : List Value), φ0.length = H0.length → Inv φ0 H0 w0 φ H w → All2 (RA φ) args vs →
      ∃ rv φ' w', (builtin b tys.toArray ty cs vs.toArray).run E.P w = .ok (.value rv) w' ∧ Ext φ φ' ∧ Inv φ0 H0 w0 φ' H' w' ∧ RA φ' v rv := fun v hK hq =>
    ⟨v, H, hK, fun φ0 H0 w0 φ w vs _ hI hv => let ⟨rv, h1, h2⟩ := hq φ w vs hI.rh hv; ⟨rv, φ, w, h1, .refl _, hI, h2⟩⟩
  unfold builtinK at h
  split at h
  · rename_i t x
    obtain ⟨ti, hti, h2⟩ := oK_some h
    clear h
    have h := h2
    clear h2
    obtain ⟨inf, d, hinf, hu, hsz, hby, hag, hshp, _⟩ := (ty_ok ok hti).ok
    split at h
    · rename_i s hsh
      rw [hsh] at hshp
      have hd : d = .string := hshp
      subst hd
      refine hpure _ h fun φ w vs hr hv => ?_
      cases vs with
      | nil => exact hv.elim
      | cons v vs =>
        cases vs with
        | cons _ _ => exact hv.2.elim
        | nil =>
          have hv1 : v = .string s := hv.1
          subst hv1
          refine ⟨_, ?_, rfl⟩
          simp [builtin, Builtin.len_, run_underlying' hu, goInt]
    · rename_i e id win nl hsh
      rw [hsh] at hshp
      have hd : d = .slice e := hshp
      subst hd
      split at h
      · rename_i kk hew
        obtain ⟨ro, ty0, l0, e0, hh, hw0⟩ := expWin_some hew
        subst hw0
        refine hpure _ h fun φ w vs hr hv => ?_
        cases vs with
        | nil => exact hv.elim
        | cons v vs =>
          cases vs with
          | cons _ _ => exact hv.2.elim
          | nil =>
            have hs : RS φ (.slc id (some (0, kk, e0)) nl) v := hv.1
            obtain ⟨_, hs2⟩ := hs
            refine ⟨.int .i64 kk, ?_, rfl⟩
            rcases hr.some_ hh with ⟨L, hL, hb⟩ | ⟨hL, _, b', hb'⟩ | hL <;> rw [hL] at hs2
            · obtain ⟨_, off, cap, hv, h3, h4, _⟩ := hs2
              rw [hv]
              simp [builtin, Builtin.len_, run_underlying' hu, goInt]
            · cases hb'
            · exact hs2.elim
      obtain ⟨bb, i, n, ex, ro, hK, hh, _, hq⟩ := winK_ok ok h
      refine hpure _ hK fun φ w vs hr hv => ?_
      cases vs with
      | nil => exact hv.elim
      | cons v vs =>
        cases vs with
        | cons _ _ => exact hv.2.elim
        | nil =>
          have hs : RS φ (.slc id win nl) v := hv.1
          refine ⟨.int .i64 n, ?_, rfl⟩
          cases hq φ w nl v hr hs with
          | nil hv hφ hn he hnl =>
            rw [hv, hn]
            simp [builtin, Builtin.len_, run_underlying' hu, goInt]
          | «at» L off cap hφ hv hc ho hb hnl =>
            rw [hv]
            simp [builtin, Builtin.len_, run_underlying' hu, goInt]
    · cases h
  · rename_i t u s x
    obtain ⟨ti, hti, h2⟩ := oK_some h
    clear h
    obtain ⟨tu, htu, h⟩ := oK_some h2
    clear h2
    have hgo : ∀ e te x', ti.shp = .slice e → E.ty e = some te → x = x' → ((∃ e', tu.shp = .slice e' ∧ ∀ y, x' ≠ .sc (.str y)) ∨ (tu.shp = .str ∧ ∀ i w n, x' ≠ .sc (.slc i w n))) →
        appendK E H e te.size te.bytes (some s) (some x') K = some r → ∃ v H', K v H' = some r ∧ ∀ (φ0 : List PE) (H0 : Hp E) (w0 : World) (φ : List PE) (w : World) (vs : List Value), φ0.length = H0.length → Inv φ0 H0 w0 φ H w → All2 (RA φ) [s, x] vs →
      ∃ rv φ' w', (builtin .append [t, u].toArray ty cs vs.toArray).run E.P w = .ok (.value rv) w' ∧ Ext φ φ' ∧ Inv φ0 H0 w0 φ' H' w' ∧ RA φ' v rv := fun e te x' h1 h2 h3 h4 h5 => by
      subst h3
      obtain ⟨v, H', hK, hq⟩ := appendK_ok (ty := ty) ok hti htu h1 h2 h4 h5
      refine ⟨v, H', hK, fun φ0 H0 w0 φ w vs hl hI hv => ?_⟩
      cases vs with
      | nil => exact hv.elim
      | cons v1 vs =>
        cases vs with
        | nil => exact hv.2.elim
        | cons v2 vs =>
          cases vs with
          | cons _ _ => exact hv.2.2.elim
          | nil =>
            obtain ⟨rv, φ', w', hr, he, hI', hv'⟩ := hq φ0 H0 w0 φ w v1 v2 hl hI hv.1 hv.2.1
            refine ⟨rv, φ', w', ?_, he, hI', hv'⟩
            simp only [builtin, Sem.run_bind]
            rw [hr]
            rfl
    split at h
    · rename_i e e' i w n hs1 hs2
      obtain ⟨te, hte, h⟩ := oK_some h
      exact hgo e te _ hs1 hte rfl (.inl ⟨e', hs2, fun y e => by cases e⟩) h
    · rename_i e y hs1 hs2
      obtain ⟨te, hte, h⟩ := oK_some h
      exact hgo e te _ hs1 hte rfl (.inr ⟨hs2, fun i w n e => by cases e⟩) h
    · cases h
  · -- copy
    rename_i t u id win nl x
    obtain ⟨ti, hti, h2⟩ := oK_some h
    clear h
    obtain ⟨tu, htu, h⟩ := oK_some h2
    clear h2
    have hgo : ∀ e x', ti.shp = .slice e → x = x' → ((∃ e', tu.shp = .slice e' ∧ ∀ y, x' ≠ .sc (.str y)) ∨ (tu.shp = .str ∧ ∀ i w n, x' ≠ .sc (.slc i w n))) →
        copyK E H e id win (some x') K = some r → ∃ v H', K v H' = some r ∧ ∀ (φ0 : List PE) (H0 : Hp E) (w0 : World) (φ : List PE) (w : World) (vs : List Value), φ0.length = H0.length → Inv φ0 H0 w0 φ H w → All2 (RA φ) [.sc (.slc id win nl), x] vs →
      ∃ rv φ' w', (builtin .copy [t, u].toArray ty cs vs.toArray).run E.P w = .ok (.value rv) w' ∧ Ext φ φ' ∧ Inv φ0 H0 w0 φ' H' w' ∧ RA φ' v rv := fun e x' h1 h3 h4 h5 => by
      subst h3
      obtain ⟨v, H', hK, hq⟩ := copyK_ok (ty := ty) (nl := nl) ok hti htu h1 h4 h5
      refine ⟨v, H', hK, fun φ0 H0 w0 φ w vs hl hI hv => ?_⟩
      cases vs with
      | nil => exact hv.elim
      | cons v1 vs =>
        cases vs with
        | nil => exact hv.2.elim
        | cons v2 vs =>
          cases vs with
          | cons _ _ => exact hv.2.2.elim
          | nil =>
            obtain ⟨rv, φ', w', hr, he, hI', hv'⟩ := hq φ0 H0 w0 φ w v1 v2 hl hI hv.1 hv.2.1
            refine ⟨rv, φ', w', ?_, he, hI', hv'⟩
            simp only [builtin, Sem.run_bind]
            rw [hr]
            rfl
    split at h
    · rename_i e e' i w n hs1 hs2
      exact hgo e _ hs1 rfl (.inl ⟨e', hs2, fun y e => by cases e⟩) h
    · rename_i e y hs1 hs2
      exact hgo e _ hs1 rfl (.inr ⟨hs2, fun i w n e => by cases e⟩) h
    · cases h
  · -- clear
    rename_i t id win nl
    obtain ⟨ti, hti, h2⟩ := oK_some h
    clear h
    split at h2
    · rename_i e hs1
      obtain ⟨v, H', hK, hq⟩ := clear_ok (ty := ty) (nl := nl) ok hti hs1 h2
      refine ⟨v, H', hK, fun φ0 H0 w0 φ w vs hl hI hv => ?_⟩
      cases vs with
      | nil => exact hv.elim
      | cons v1 vs =>
        cases vs with
        | cons _ _ => exact hv.2.elim
        | nil =>
          obtain ⟨rv, φ', w', hr, he, hI', hv'⟩ := hq φ0 H0 w0 φ w v1 hl hI hv.1
          refine ⟨rv, φ', w', ?_, he, hI', hv'⟩
          simp only [builtin, Sem.run_bind]
          rw [hr]
          rfl
    · cases h2
  · obtain ⟨s, hs, hK⟩ := oK_some h
    refine hpure _ hK fun φ w vs hr hv => ?_
    unfold minMax at hs
    split at hs
    · rename_i k a l
      cases vs with
      | nil => exact hv.elim
      | cons v vs =>
        have hv1 : v = .int k a := hv.1
        subst hv1
        obtain ⟨n, rfl, hr⟩ := minMaxGo_ok (P := E.P) false k w l a vs s hs hv.2
        refine ⟨.int k n, ?_, rfl⟩
        simp only [Bool.false_eq_true, if_false] at hr
        simp only [builtin, Builtin.min_, Sem.run_bind, hr, Result.andThen_ok, Sem.run_pure]
    · cases hs
  · obtain ⟨s, hs, hK⟩ := oK_some h
    refine hpure _ hK fun φ w vs hr hv => ?_
    unfold minMax at hs
    split at hs
    · rename_i k a l
      cases vs with
      | nil => exact hv.elim
      | cons v vs =>
        have hv1 : v = .int k a := hv.1
        subst hv1
        obtain ⟨n, rfl, hr⟩ := minMaxGo_ok (P := E.P) true k w l a vs s hs hv.2
        refine ⟨.int k n, ?_, rfl⟩
        simp only [if_true] at hr
        simp only [builtin, Builtin.max_, Sem.run_bind, hr, Result.andThen_ok, Sem.run_pure]
    · cases hs
  · cases h

theorem call_ok (ok : EnvOk E) {O : Orc E} (hO : OrcOk O) {fro : Bool} {o : Oper} {c : Call} {F : Fr} {H : Hp E} {K : AV → Hp E → Option R} {r : R} (ho : o.op = .call c)
    (h : (match c.callee with
      | .builtin b => argsK E F c.argTypes.toList c.args.toList H [] fun args H => builtinK E b c.argTypes.toList H args K
      | .value g => match ev F g with
        | some (.sc (.fn f caps)) => argsK E F c.argTypes.toList c.args.toList H [] fun args H => callK E O fro H f (args ++ capAVs caps) K
        | _ => none
      | _ => none) = some r) : ∃ v H', K v H' = some r ∧ OpOk E o F H v H' := by
  have hex : ∀ a : Act, execOp a.eval o = (do let d ← resolve a.eval c o.type; invoke d.target d.args) := fun a => by unfold execOp; rw [ho]
  split at h
  · rename_i b hcal
    obtain ⟨args, H1, h, hq⟩ := argsK_ok ok _ _ _ _ _ _ h
    obtain ⟨v, H2, hK, hq2⟩ := builtinK_ok (ty := o.type) (cs := c.args.map fun | .const _ => true | _ => false) ok h
    refine ⟨v, H2, hK, RunOk.op fun φ0 H0 w0 φ a w hl hI hF => ?_⟩
    obtain ⟨φ1, he1, hI1, hargs⟩ := hq φ0 H0 w0 φ a w [] hI hF trivial
    obtain ⟨rv, φ', w', hrun, he2, hI2, hv⟩ := hq2 φ0 H0 w0 φ1 w ([] ++ c.args.toList.map a.eval) hl hI1 hargs
    refine ⟨rv, φ', w', _, ?_, .inl rfl, he1.trans he2, hI2, hv⟩
    rw [hex]
    simp only [resolve, hcal, Sem.run_bind, Sem.run_pure, Result.andThen_ok, invoke]
    have : (([] ++ c.args.toList.map a.eval).toArray : Array Value) = c.args.map a.eval := by apply Array.ext'; simp
    rw [this] at hrun
    simp only [Array.toArray_toList] at hrun
    exact hrun
  · rename_i g hcal
    split at h
    · rename_i f caps hg
      obtain ⟨args, H1, h, hq⟩ := argsK_ok ok _ _ _ _ _ _ h
      obtain ⟨⟨fn, hfn, hname, hbody⟩, v, H2, hK, _, hq2⟩ := callK_ok ok hO h
      refine ⟨v, H2, hK, fun φ0 H0 w0 φ a w next Q hl hI hF hnext => ?_⟩
      obtain ⟨φ1, he1, hI1, hargs⟩ := hq φ0 H0 w0 φ a w [] hI hF trivial
      obtain ⟨cv, heg, hcv⟩ := ev_ok hg (hF.ext he1)
      have hcaps : ∀ (caps : List (Nat × Nat × Nat)) (cv : List Value), All2 (fun c v => RP φ1 c.1 c.2.1 c.2.2 v) caps cv → All2 (RA φ1) (capAVs caps) cv := by
        intro caps
        induction caps with
        | nil => intro cv h; cases cv <;> first | trivial | exact h.elim
        | cons c caps ih =>
          intro cv h
          cases cv with
          | nil => exact h.elim
          | cons v cv => exact ⟨h.1, ih cv h.2⟩
      have hcall := hq2 φ0 H0 w0 φ1 w (([] ++ c.args.toList.map a.eval) ++ cv) hl hI1 (hargs.append (hcaps caps cv hcv))
      have hrun : (execOp a.eval o).run E.P w = .ok (.enter f (([] ++ c.args.toList.map a.eval) ++ cv).toArray) w := by
        rw [hex]
        simp only [resolve, hcal, Sem.run_bind, heg, Deferred.ofValue, Sem.run_pure, Result.andThen_ok, invoke, callFunc, run_program, hfn, hname, hbody, Bool.false_eq_true, if_false]
        congr 2
        apply Array.ext'
        simp
      unfold Oper.wp
      rw [hrun, Oper.upon_enter]
      refine hcall.mono ?_
      rintro e w' ⟨rv, φ', rfl, he2, hI2, hv⟩
      exact hnext rv φ' w' (he1.trans he2) hI2 hv
    · cases h
  · cases h

theorem evalOp_ok (ok : EnvOk E) {O : Orc E} (hO : OrcOk O) {fro : Bool} {o : Oper} {F : Fr} {H : Hp E} {K : AV → Hp E → Option R} {r : R} (h : evalOp E O fro o F H K = some r) :
    ∃ v H', K v H' = some r ∧ OpOk E o F H v H' := by
  have up : (∃ v H', K v H' = some r ∧ RunOk E o F H v H') → ∃ v H', K v H' = some r ∧ OpOk E o F H v H' := fun ⟨v, H', h1, h2⟩ => ⟨v, H', h1, h2.op⟩
  unfold evalOp at h
  split at h
  · rename_i x ho; exact up (move_ok ok (.inl ho) h)
  · rename_i x ho; exact up (move_ok ok (.inr ho) h)
  · rename_i c x y ho
    split at h
    · rename_i t hc; exact up (pick_ok ho hc h)
    · cases h
  · rename_i t ho; exact up (alloc_ok ok ho h)
  · rename_i t x ho
    split at h
    · rename_i v hx; exact up (box_ok (v := .sc v) ho hx (fun _ e => by cases e) h)
    · rename_i l hx; exact up (box_ok (v := .agg l) ho hx (fun _ e => by cases e) h)
    · cases h
  · rename_i t parts ho; exact up (build_ok ok ho h)
  · rename_i t n parts ho; exact up (buildSlice_ok ok ho h)
  · rename_i t x ho
    split at h
    · rename_i id row fld hx; exact up (load_ok ok ho hx h)
    · cases h
  · rename_i t x y ho
    obtain ⟨_, h⟩ := cond_none_left h
    split at h
    · rename_i id row fld hx; exact up (store_ok ok ho hx h)
    · cases h
  · rename_i x ho
    split at h
    · rename_i id row fld hx
      obtain ⟨hal, hK⟩ := aliveK_some h
      exact up ⟨_, _, hK, nilCheck_ok ho hx (.inl ⟨_, _, _, rfl⟩) (fun _ _ _ e => by cases e; exact hal)⟩
    · rename_i f caps hx
      exact up ⟨_, _, h, nilCheck_ok ho hx (.inr ⟨_, _, rfl⟩) (fun _ _ _ e => by cases e)⟩
    · cases h
  · rename_i op t x y yt ho; exact up (binOp_ok ok ho h)
  · rename_i op t x ho; exact up (unOp_ok ho h)
  · rename_i src dst x ho; exact up (convert_ok ok ho h)
  · rename_i t l c ho; exact up (makeSlice_ok ok ho h)
  · rename_i t x lo hi mx ho
    cases mx with
    | none => exact up (slice_ok ok ho h)
    | some _ => exact up (slice3_ok ok ho h)
  · rename_i t x f ho
    obtain ⟨ti, hti, h⟩ := oK_some h
    split at h
    · rename_i fs id row fld hsh hx
      obtain ⟨hal, h⟩ := aliveK_some h
      obtain ⟨fi, hfi, h⟩ := oK_some h
      obtain ⟨hz, hK⟩ := cond_none_left h
      exact up ⟨_, _, hK, fieldAddr_ok ok ho hti hsh hx hfi hz hal⟩
    · cases h
  · rename_i t x f ho
    obtain ⟨ti, hti, h⟩ := oK_some h
    split at h
    · rename_i fs l hsh hx
      obtain ⟨fi, hfi, h⟩ := oK_some h
      exact up (field_ok ok ho hti hsh hx hfi h)
    · cases h
  · rename_i t x i ho; exact up (indexAddr_ok ok ho h)
  · rename_i t x i ho; exact up (index_ok ok ho h)
  · rename_i x i ho
    split at h
    · rename_i l hx
      split at h
      · rename_i l' hl; exact up ⟨_, _, h, (extract_ok ho hx hl).1 rfl⟩
      · rename_i v hl; exact up ⟨_, _, h, (extract_ok ho hx hl).2 v rfl⟩
      · cases h
    · cases h
  · rename_i f first caps ho
    obtain ⟨hf, h⟩ := cond_none_right h
    obtain ⟨l, hl, h⟩ := oK_some h
    obtain ⟨c, hc, hK⟩ := oK_some h
    exact up ⟨_, _, hK, makeFunc_ok ho hf hl hc⟩
  · rename_i c ho; exact call_ok ok hO ho h
  · cases h
end
end Go.Eng
