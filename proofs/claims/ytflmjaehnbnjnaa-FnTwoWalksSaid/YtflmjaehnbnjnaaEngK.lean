import Derived.Test.YtflmjaehnbnjnaaEngJ2
set_option linter.all false
namespace Go.Eng
open Go Go.RowKit

section
variable {E : Env} {R : Type}

theorem All2.take_drop {φ : List PE} {l : List SV} {vs : List Value} (h : All2 (RS φ) l vs) (i n : Nat) : All2 (RS φ) (seg l i n) ((vs.drop i).take n) := by
  refine All2.of_nth (by have := h.length; simp [seg]; omega) fun k s hs => ?_
  rw [nth_seg] at hs
  split at hs
  · obtain ⟨v, hv, hr⟩ := h.nth hs
    exact ⟨v, by rw [List.getElem?_take, if_pos (by assumption), List.getElem?_drop]; exact hv, hr⟩
  · cases hs

theorem rows_real {φ : List PE} {b : E.B} {L : Loc} {w : World} {ro : Bool} (ok : EnvOk E) (hb : RB φ ⟨ro, .rows b⟩ L w) {row n off : Nat} (hoff : n = 0 ∨ off = L.base + row * L.sz) (hle : row + n ≤ E.len b) :
    ∃ vs : List Value, All2 (RS φ) (seg (E.cells b) (row * E.sz b) (n * E.sz b)) vs ∧ vs.length = n * E.sz b ∧ ∀ j v, vs[j]? = some v → w.cell? ⟨L.b, off + j, none⟩ = some v := by
  obtain ⟨⟨c, t', fz, h1, h2, h3, _⟩, hf⟩ := hb
  have hsz : L.sz = E.sz b := hf.1
  have hbnd : row * E.sz b + n * E.sz b ≤ (E.cells b).length := by
    rw [ok.cells_len, ← Nat.add_mul]
    exact Nat.mul_le_mul_right _ hle
  have hl := seg_length (E.cells b) (row * E.sz b) (n * E.sz b) hbnd
  rcases hoff with h0 | hoff
  · subst h0
    refine ⟨[], ?_, by simp, fun j v hv => by simp at hv⟩
    have : seg (E.cells b) (row * E.sz b) (0 * E.sz b) = [] := by simp [seg]
    rw [this]; trivial
  · have hc : ∀ j s, nth (seg (E.cells b) (row * E.sz b) (n * E.sz b)) j = some s → ∃ v, c[off + j]? = some v ∧ RS φ s v := fun j s hs => by
      rw [nth_seg] at hs
      split at hs
      · obtain ⟨v, hv, hr⟩ := h3 _ _ hs
        exact ⟨v, by rw [hoff, hsz, ← hv]; congr 1; omega, hr⟩
      · cases hs
    rcases Nat.eq_zero_or_pos (n * E.sz b) with h0 | hpos
    · refine ⟨[], ?_, by simp [h0], fun j v hv => by simp at hv⟩
      have : seg (E.cells b) (row * E.sz b) (n * E.sz b) = [] := by rw [h0]; simp [seg]
      rw [this]; trivial
    · have hbd : off + n * E.sz b ≤ c.size := by
        obtain ⟨s, hs⟩ := nth_some (l := seg (E.cells b) (row * E.sz b) (n * E.sz b)) (n := n * E.sz b - 1) (by omega)
        obtain ⟨v, hv, _⟩ := hc _ _ hs
        have := (Array.getElem?_eq_some_iff.1 hv).1
        omega
      have hx := extract_all2 (φ := φ) (l := seg (E.cells b) (row * E.sz b) (n * E.sz b)) (c := c) (o := off) (by omega) hc
      rw [hl] at hx
      refine ⟨_, hx, by rw [← hx.length, hl], fun j v hv => ?_⟩
      rw [cell_of h1]
      rw [Array.getElem?_toList, Array.getElem?_extract] at hv
      split at hv
      · exact hv
      · cases hv

theorem srcK_ok (ok : EnvOk E) {H : Hp E} {e : TypeId} {x : AV} {K : E.B → Option R} {r : R} (h : srcK E H e (some x) K = some r) :
    ∃ b, K b = some r ∧ ∀ (φ : List PE) (w : World) (v : Value) (tx : TypeId) (size : Nat), RH φ H w → RA φ x v → E.sz b = size →
      ((∃ e', E.P.underlying tx = some (.slice e')) ∨ E.P.underlying tx = some .string) → ((∃ s, x = .sc (.str s)) → E.P.underlying tx = some .string) → ((∃ i w n, x = .sc (.slc i w n)) → ∃ e', E.P.underlying tx = some (.slice e')) →
      ∃ news, Src E.P size tx v (E.len b) news w ∧ All2 (RS φ) (E.cells b) news := by
  unfold srcK at h
  split at h
  · rename_i id win nl heq
    cases heq
    unfold rowsK at h
    obtain ⟨ro, b0, hh, h⟩ := rowsOf_some h
    have hw : ∃ b i n, K b = some r ∧ E.sz b = E.sz b0 ∧ E.len b = n ∧ i + n ≤ E.len b0 ∧ E.cells b = seg (E.cells b0) (i * E.sz b0) (n * E.sz b0) ∧ (∀ y, win = some y → y.1 = i ∧ y.2.1 = n) ∧ (win = none → i = 0 ∧ n = E.len b0) := by
      cases win with
      | none =>
        refine ⟨b0, 0, E.len b0, h, rfl, rfl, by omega, ?_, fun y e => (by cases e), fun _ => ⟨rfl, rfl⟩⟩
        rw [Nat.zero_mul]
        simp only [seg, List.drop_zero]
        rw [List.take_of_length_le (by rw [ok.cells_len]; exact Nat.le_refl _)]
      | some y =>
        obtain ⟨i, n, k⟩ := y
        obtain ⟨b', hK, _, hsz, hlen, hle, hc⟩ := ok.subK _ _ _ _ _ h
        exact ⟨b', i, n, hK, hsz, hlen, hle, hc, fun y e => (by cases e; exact ⟨rfl, rfl⟩), fun e => (by cases e)⟩
    obtain ⟨b, i, n, hK, hsz, hlen, hle, hc, hw3, hw2⟩ := hw
    refine ⟨b, hK, fun φ w v tx size hr hv hsize _ _ hkind => ?_⟩
    obtain ⟨e', hk⟩ := hkind ⟨id, win, nl, rfl⟩
    obtain ⟨_, hv2⟩ := (hv : RS φ (.slc id win nl) v)
    rcases hr.some_ hh with ⟨L, hL, hb⟩ | ⟨hL, hcv, _⟩ | hL <;> rw [hL] at hv2
    case inr.inr => exact hv2.elim
    · obtain ⟨hnl, hs⟩ := hv2
      have hf : L.sz = E.sz b0 ∧ L.len = E.len b0 := hb.fits
      obtain ⟨off, cap, hve, hoff⟩ : ∃ off cap, v = .slice (some ⟨L.b, off, none⟩) n cap ∧ (n = 0 ∨ off = L.base + i * L.sz) := by
        cases win with
        | none =>
          obtain ⟨rfl, rfl⟩ := hw2 rfl
          obtain ⟨cap, rfl, h3, h4⟩ := hs
          exact ⟨L.base, cap, by rw [hf.2], .inr (by simp)⟩
        | some y =>
          obtain ⟨i', n', k'⟩ := y
          obtain ⟨h5, h6⟩ := hw3 _ rfl
          have h5 : i' = i := h5
          have h6 : n' = n := h6
          subst h5; subst h6
          obtain ⟨off, cap, rfl, h3, h4, _⟩ := hs
          exact ⟨off, cap, rfl, by omega⟩
      obtain ⟨vs, hvs, hvl, hcell⟩ := rows_real ok hb hoff hle
      rw [← hc] at hvs
      refine ⟨vs, ?_, hvs⟩
      rw [hlen, hve]
      exact Src.ofSlice w hk _ n cap vs (by rw [hvl, ← hsize, hsz]) (fun j u hu => by rw [addr_add]; exact hcell j u hu) hvs.one
    · obtain ⟨rfl, _, hwn⟩ := hv2
      have hcv : E.cells b0 = [] := hcv
      obtain ⟨inf, _, _, hpos⟩ := ok.info b0
      have hl := ok.cells_len b0
      rw [hcv] at hl
      have hl0 : E.len b0 = 0 := by
        rcases Nat.mul_eq_zero.1 hl.symm with h | h
        · exact h
        · omega
      have hn : n = 0 := by omega
      have hcb : E.cells b = [] := by rw [hc, hcv]; simp [seg]
      refine ⟨[], ?_, by rw [hcb]; trivial⟩
      rw [hlen, hn]
      exact Src.ofNil w hk 0
  · rename_i s heq
    cases heq
    obtain ⟨b, hK, _, hsz, hlen, hc⟩ := ok.bytesK _ _ _ _ h
    refine ⟨b, hK, fun φ w v tx size hr hv hsize _ hkind _ => ?_⟩
    have hk := hkind ⟨s, rfl⟩
    obtain rfl : v = .string s := hv
    refine ⟨byteCells s, ?_, ?_⟩
    · rw [← hsize, hsz, hlen]
      exact Src.ofString w hk s
    · rw [hc]
      unfold byteCells
      generalize s.data.toList = l
      induction l with
      | nil => trivial
      | cons a l ih => exact ⟨rfl, ih⟩
  · cases h

theorem append_nil_run {P : Program} {t tx ty e : TypeId} {i : TypeInfo} (ht : P.underlying t = some (.slice e)) (hi : P.info? e = some i) {x : Value} {news : List Value} {w : World} (hs : Src P i.size tx x 0 news w) :
    (Builtin.append_ #[t, tx] ty #[.slice none 0 0, x]).run P w = .ok (.slice none 0 0) w := by
  rcases hs.kind with ⟨e', hk⟩ | hk <;> simp [Builtin.append_, run_underlying ht, run_underlying hk, sizeOf, typeInfo, hi, hs.len, hs.cells]

theorem append_room_run {P : Program} {t tx ty e : TypeId} {i : TypeInfo} (ht : P.underlying t = some (.slice e)) (hi : P.info? e = some i) {b off sLen sCap n : Nat} {x : Value} {news : List Value} {w w' : World} (hs : Src P i.size tx x n news w)
    (hroom : sLen + n ≤ sCap) (hst : (storeCells ⟨b, off + sLen * i.size, none⟩ news 0).run P w = .ok () w') :
    (Builtin.append_ #[t, tx] ty #[.slice (some ⟨b, off, none⟩) sLen sCap, x]).run P w = .ok (.slice (some ⟨b, off, none⟩) (sLen + n) sCap) w' := by
  rcases hs.kind with ⟨e', hk⟩ | hk <;> simp [Builtin.append_, run_underlying ht, run_underlying hk, sizeOf, typeInfo, hi, hs.len, hroom, hs.cells, Addr.add_lit, hst]

theorem appendW_ok (ok : EnvOk E) {H : Hp E} {t u ty e : TypeId} {ti tu te : TI} {x : AV} {id i n ex : Nat} {nl : Bool} {K : AV → Hp E → Option R} {r : R} (hti : E.ty t = some ti) (htu : E.ty u = some tu) (hsh : ti.shp = .slice e) (hte : E.ty e = some te)
    (hxk : (∃ e', tu.shp = .slice e' ∧ ∀ y, x ≠ .sc (.str y)) ∨ (tu.shp = .str ∧ ∀ i w n, x ≠ .sc (.slc i w n)))
    (h : (srcK E H e (some x) fun b => rowsOf E H id fun a => cond (Nat.beq te.size (E.sz a) && Nat.beq e (E.elt a) && Nat.ble (E.len b) ex) (ovHK E H id (i + n) b fun H => K (.sc (.slc id (some (i, n + E.len b, ex - E.len b)) nl)) H) none) = some r) :
    ∃ v H', K v H' = some r ∧ ∀ (φ0 : List PE) (H0 : Hp E) (w0 : World) (φ : List PE) (w : World) (sv xv : Value), φ0.length = H0.length → Inv φ0 H0 w0 φ H w → RA φ (.sc (.slc id (some (i, n, ex)) nl)) sv → RA φ x xv →
      ∃ rv φ' w', (Builtin.append_ #[t, u] ty #[sv, xv]).run E.P w = .ok rv w' ∧ Ext φ φ' ∧ Inv φ0 H0 w0 φ' H' w' ∧ RA φ' v rv := by
  obtain ⟨inf, d, hinf, hu, hsz, hby, hag, hshp, _⟩ := (ty_ok ok hti).ok
  obtain ⟨infu, du, hinfu, huu, _, _, _, hshpu, _⟩ := (ty_ok ok htu).ok
  obtain ⟨inf2, d2, hinf2, hu2, hsz2, hby2, _⟩ := (ty_ok ok hte).ok
  rw [hsh] at hshp
  have hd : d = .slice e := hshp
  subst hd
  obtain ⟨b, h, hsrc⟩ := srcK_ok ok h
  obtain ⟨ro, a, hh, h⟩ := rowsOf_some h
  obtain ⟨hb, h⟩ := cond_none_right h
  simp only [Bool.and_eq_true] at hb
  have hb0 : te.size = E.sz a := Nat.eq_of_beq_eq_true hb.1.1
  have hb2 : E.len b ≤ ex := Nat.le_of_ble_eq_true hb.2
  obtain ⟨a1, a', hh1, hK, he, hs, hl, hbs, hle, hc⟩ := ovHK_some ok h
  rw [hh] at hh1; cases hh1
  refine ⟨_, _, hK, fun φ0 H0 w0 φ w sv xv hl0 hI hsv hx => ?_⟩
  obtain ⟨news, hSrc, hnews⟩ := hsrc φ w xv u inf2.size hI.rh hx (by rw [hbs, ← hb0, hsz2]) (by
      rcases hxk with ⟨e', h1, _⟩ | ⟨h1, _⟩ <;> rw [h1] at hshpu
      · exact .inl ⟨e', by rw [huu]; exact congrArg some hshpu⟩
      · exact .inr (by rw [huu]; exact congrArg some hshpu)) (fun ⟨y, hy⟩ => by
      rcases hxk with ⟨e', h1, h2⟩ | ⟨h1, _⟩
      · exact absurd hy (h2 y)
      · rw [h1] at hshpu; rw [huu]; exact congrArg some hshpu) (fun ⟨i, w, n, hy⟩ => by
      rcases hxk with ⟨e', h1, h2⟩ | ⟨h1, h2⟩
      · rw [h1] at hshpu; exact ⟨e', by rw [huu]; exact congrArg some hshpu⟩
      · exact absurd hy (h2 i w n))
  have hsr : SlcReal φ id i n ex nl sv := by
    have hw : winK E H id (some (i, n, ex)) (fun b r n e => some (b, r, n, e)) = some (a, i, n, ex) := by
      unfold winK rowsOf
      rw [hh]
    obtain ⟨_, _, _, _, _, e1, _, _, hq⟩ := winK_ok ok hw
    cases e1
    exact hq φ w nl sv hI.rh hsv
  have hsp : E.sz a = inf2.size := by rw [← hb0, hsz2]
  rcases winK_ov ok hh hbs he hs hl (k := n) hle (by omega) hc hl0 hI hsr hnews with ⟨rfl, hnl, hn0, hex0, hlb, hnn, hI'⟩ | ⟨L, off, cap, w', hnl, rfl, hcap, hrun, hI'⟩
  · refine ⟨.slice none 0 0, φ, w, ?_, .refl _, hI', ?_⟩
    · rw [hlb] at hSrc
      exact append_nil_run hu hinf2 hSrc
    · obtain ⟨h1, h2⟩ := (hsv : RS φ (.slc id (some (i, n, ex)) nl) _)
      refine ⟨h1, ?_⟩
      cases hp : nth φ id with
      | none => rw [hp] at h2; exact h2
      | some pe =>
        rw [hp] at h2
        cases pe with
        | dead => trivial
        | virt => exact ⟨rfl, h2.2.1, show n + E.len b = 0 ∧ ex - E.len b = 0 by omega⟩
        | abs => exact h2
        | «at» L =>
          obtain ⟨_, off, cap, e1, _⟩ := h2
          cases e1
  · have hrun2 := append_room_run (ty := ty) hu hinf2 (off := off) (sLen := n) (sCap := cap) hSrc (by omega) (by rw [← hsp]; exact hrun)
    refine ⟨_, φ, w', hrun2, .refl _, hI', ?_⟩
    obtain ⟨h1, h2⟩ := (hsv : RS φ (.slc id (some (i, n, ex)) nl) _)
    refine ⟨rfl, ?_⟩
    cases hp : nth φ id with
    | none => rw [hp] at h2; exact h2
    | some pe =>
      rw [hp] at h2
      cases pe with
      | dead => trivial
      | virt => cases h2.1
      | abs => exact h2
      | «at» L2 =>
        obtain ⟨h3, off2, cap2, e1, h4, h5, h6⟩ := h2
        simp only [Value.slice.injEq, Option.some.injEq, Addr.mk.injEq] at e1
        obtain ⟨⟨hb1, rfl, _⟩, _, rfl⟩ := e1
        exact ⟨h3, off, cap, by rw [hb1], by omega, h5, h6⟩

theorem appendK_ok (ok : EnvOk E) {H : Hp E} {t u ty e : TypeId} {ti tu te : TI} {s x : AV} {K : AV → Hp E → Option R} {r : R} (hti : E.ty t = some ti) (htu : E.ty u = some tu) (hsh : ti.shp = .slice e) (hte : E.ty e = some te)
    (hxk : (∃ e', tu.shp = .slice e' ∧ ∀ y, x ≠ .sc (.str y)) ∨ (tu.shp = .str ∧ ∀ i w n, x ≠ .sc (.slc i w n))) (h : appendK E H e te.size te.bytes (some s) (some x) K = some r) :
    ∃ v H', K v H' = some r ∧ ∀ (φ0 : List PE) (H0 : Hp E) (w0 : World) (φ : List PE) (w : World) (sv xv : Value), φ0.length = H0.length → Inv φ0 H0 w0 φ H w → RA φ s sv → RA φ x xv →
      ∃ rv φ' w', (Builtin.append_ #[t, u] ty #[sv, xv]).run E.P w = .ok rv w' ∧ Ext φ φ' ∧ Inv φ0 H0 w0 φ' H' w' ∧ RA φ' v rv := by
  obtain ⟨inf, d, hinf, hu, hsz, hby, hag, hshp, _⟩ := (ty_ok ok hti).ok
  obtain ⟨infu, du, hinfu, huu, _, _, _, hshpu, _⟩ := (ty_ok ok htu).ok
  obtain ⟨inf2, d2, hinf2, hu2, hsz2, hby2, _, _, ⟨z, hz, hzs, hzc, _⟩, _⟩ := (ty_ok ok hte).ok
  rw [hsh] at hshp
  have hd : d = .slice e := hshp
  subst hd
  unfold appendK at h
  split at h
  case h_2 => cases h
  rename_i id win nl heq
  cases heq
  cases win with
  | some y =>
    obtain ⟨i, n, ex⟩ := y
    exact appendW_ok ok hti htu (by rw [hsh]) hte hxk h
  | none =>
  obtain ⟨b, h, hsrc⟩ := srcK_ok ok h
  obtain ⟨ro, a, hh, h⟩ := rowsOf_some h
  simp only [hh] at h
  obtain ⟨hro, h⟩ := cond_none_left h
  have hro : ro = false := hro
  subst hro
  obtain ⟨hb, h⟩ := cond_none_right h
  simp only [Bool.and_eq_true, roomOk] at hb
  obtain ⟨⟨hb0, hbe⟩, hb1, hb2⟩ := hb
  have hbe : e = E.elt a := Nat.eq_of_beq_eq_true hbe
  have hb0 : te.size = E.sz a := Nat.eq_of_beq_eq_true hb0
  have hb1 : E.len a + E.len b ≤ 2 ^ 47 := Nat.le_of_ble_eq_true hb1
  have hb2 : (E.len a + E.len b) * te.bytes ≤ 2 ^ 47 := Nat.le_of_ble_eq_true hb2
  obtain ⟨c, hK, hce, hcs, hbs, hcl, hcc⟩ := ok.appK _ _ _ _ h
  refine ⟨_, _, hK, fun φ0 H0 w0 φ w sv xv hl0 hI hs hx => ?_⟩
  have hs : RS φ (.slc id none nl) sv := hs
  -- what is appended
  obtain ⟨news, hSrc, hnews⟩ := hsrc φ w xv u inf2.size hI.rh hx (by rw [hbs, ← hb0, hsz2]) (by
      rcases hxk with ⟨e', h1, _⟩ | ⟨h1, _⟩ <;> rw [h1] at hshpu
      · exact .inl ⟨e', by rw [huu]; exact congrArg some hshpu⟩
      · exact .inr (by rw [huu]; exact congrArg some hshpu)) (fun ⟨y, hy⟩ => by
      rcases hxk with ⟨e', h1, h2⟩ | ⟨h1, _⟩
      · exact absurd hy (h2 y)
      · rw [h1] at hshpu; rw [huu]; exact congrArg some hshpu) (fun ⟨i, w, n, hy⟩ => by
      rcases hxk with ⟨e', h1, h2⟩ | ⟨h1, h2⟩
      · rw [h1] at hshpu; exact ⟨e', by rw [huu]; exact congrArg some hshpu⟩
      · exact absurd hy (h2 i w n))
  have hIk := hI.kill hh rfl
  have hext : Ext φ (nset φ id .dead) := fun k pe hk => by
    rw [nth_nset]
    split
    · exact .inr rfl
    · exact .inl hk
  have hlenk : (nset φ id .dead).length = (nset H id none).length := hIk.rh.len
  have hnl := hSrc.newsLen
  have hsp : E.sz a = inf2.size := by rw [← hb0, hsz2]
  -- the rows before and those that are new
  have hcells : ∀ j s, nth (E.cells c) j = some s → (j < E.len a * E.sz a ∧ nth (E.cells a) j = some s) ∨ (E.len a * E.sz a ≤ j ∧ nth (E.cells b) (j - E.len a * E.sz a) = some s) := fun j s hj => by
    rw [hcc, nth_append, ok.cells_len] at hj
    split at hj
    · exact .inl ⟨by assumption, hj⟩
    · exact .inr ⟨by omega, hj⟩
  obtain ⟨_, hs2⟩ := hs
  -- a new row
  have grow : ∀ (base : Option Addr) (sLen sCap : Nat) (olds : List Value), sv = .slice base sLen sCap → sLen = E.len a → sCap < sLen + E.len b → All2 (RS φ) (E.cells a) olds →
      (Builtin.firstCells inf2.size sLen (.slice base sLen sCap)).run E.P w.drew = .ok olds.toArray w.drew →
      (E.len b = 0 → False) → ∃ rv φ' w', (Builtin.append_ #[t, u] ty #[sv, xv]).run E.P w = .ok rv w' ∧ Ext φ φ' ∧ Inv φ0 H0 w0 φ' (nset H id none ++ [some ⟨false, .rows c⟩]) w' ∧ RS φ' (.slc (nset H id none).length none false) rv := by
    intro base sLen sCap olds hsv hsl hcap holds hold _
    subst hsl
    have hfit : Builtin.nextslicecap (E.len a + E.len b) sCap * inf2.bytes ≤ 281474976710656 := by
      have h1 := nextslicecap_le hcap
      calc Builtin.nextslicecap (E.len a + E.len b) sCap * inf2.bytes ≤ 2 * (E.len a + E.len b) * inf2.bytes := Nat.mul_le_mul_right _ h1
        _ = 2 * ((E.len a + E.len b) * te.bytes) := by rw [hby2, Nat.mul_assoc]
        _ ≤ 281474976710656 := by omega
    have hrun := run_append_grow_src w t u ty e inf2 z hu hinf2 hz base (E.len a) sCap olds hold xv (E.len b) news hSrc hcap (by omega) hfit
    have hge := grownCap_ge w (E.len a + E.len b) sCap e
    generalize grownCap w (E.len a + E.len b) sCap e = ncap at hrun hge
    have holdsl := holds.length
    rw [ok.cells_len] at holdsl
    have hzl : z.cells.size = inf2.size := by rw [hzs, hsz2]
    obtain ⟨L, hLb, hLbase, hLn, hLsz, hLlen, hI'⟩ := hIk.newRows (b := c) (c := (olds ++ news).toArray ++ Builtin.zeroCells z.cells (ncap - (E.len a + E.len b))) (fz := (0, 0)) (t := e) (w' := w.drew.alloc (.cells ((olds ++ news).toArray ++ Builtin.zeroCells z.cells (ncap - (E.len a + E.len b))) e)) (fun j s hj => by
      rcases hcells j s hj with ⟨hlt, hj⟩ | ⟨hge, hj⟩
      · obtain ⟨v, hv, hr⟩ := holds.nth hj
        refine ⟨v, ?_, hr.ext hext⟩
        have : (olds ++ news)[j]? = some v := by rw [List.getElem?_append, if_pos (by omega)]; exact hv
        rw [Array.getElem?_append, if_pos (by simp; omega)]
        simpa using this
      · obtain ⟨v, hv, hr⟩ := hnews.nth hj
        have hjl := nth_lt hj
        have hnl2 := hnews.length
        refine ⟨v, ?_, hr.ext hext⟩
        have : (olds ++ news)[j]? = some v := by rw [List.getElem?_append, if_neg (by omega), ← hv]; congr 1; omega
        rw [Array.getElem?_append, if_pos (by simp; omega)]
        simpa using this) ⟨fun o _ => by simp, by rw [hce]; exact hbe⟩ (Pushed.push w _ (w.drawn + 1))
    refine ⟨_, _, _, by rw [hsv]; exact hrun, hext.trans (.push _ _), hI', ?_⟩
    have := RS_last_slc (φ := nset φ id .dead) (L := L) (n := (nset H id none).length) (cap := ncap) hlenk hLbase (by rw [hLlen, hcl]; exact hge) (by
      rw [hLsz, hLn, hcs]
      simp only [List.length_append, Array.size_append, List.size_toArray, size_zeroCells, hzl]
      rw [← holdsl, hnl, hsp, ← Nat.add_mul, ← Nat.add_mul]
      exact Nat.le_of_eq (by congr 1; omega))
    rw [hLb, hLlen, hcl] at this
    exact this
  rcases hI.rh.some_ hh with ⟨L, hL, hbb⟩ | ⟨hL, hcv, _⟩ | hL <;> rw [hL] at hs2
  case inr.inr => exact hs2.elim
  · obtain ⟨hnlf, cap, hsv, hcap1, hcap2⟩ := hs2
    subst hnlf
    have hf : L.sz = E.sz a ∧ L.len = E.len a := hbb.fits
    have hnlr : (cond (Nat.beq (E.len b) 0) false false) = false := by cases Nat.beq (E.len b) 0 <;> rfl
    rw [hnlr]
    obtain ⟨vs, hvs, hvl, hcell⟩ := rows_real ok hbb (row := 0) (n := E.len a) (off := L.base) (.inr (by simp)) (by omega)
    have hvs : All2 (RS φ) (E.cells a) vs := by
      rw [Nat.zero_mul] at hvs
      simp only [seg, List.drop_zero] at hvs
      rwa [List.take_of_length_le (by rw [ok.cells_len]; exact Nat.le_refl _)] at hvs
    by_cases hroom : E.len a + E.len b ≤ cap
    · -- the block itself
      obtain ⟨⟨c0, t0, fz, h1, h2, h3, h4⟩, _⟩ := hbb
      have hbnd : L.base + E.len a * E.sz a + news.length ≤ c0.size := by
        rw [hnl, ← hsp, h2]
        have : (E.len a + E.len b) * E.sz a ≤ cap * E.sz a := Nat.mul_le_mul_right _ hroom
        rw [hf.1] at hcap2
        rw [Nat.add_mul] at this
        omega
      obtain ⟨w', c', hrun, ht, hcsz, hc'⟩ := run_storeCells' (P := E.P) news 0 w L.b (L.base + E.len a * E.sz a) c0 t0 fz h1 hSrc.one (by simpa using hbnd) ((h4 rfl).1 rfl)
      have hrun2 := append_room_run (ty := ty) hu hinf2 (off := L.base) (sLen := E.len a) (sCap := cap) hSrc hroom (by rw [← hsp]; exact hrun)
      have hwb := hI.wb hl0 hL hh rfl
      have hdead : ∀ k L', nth (nset φ id .dead) k = some (.at L') → L'.b ≠ L.b := fun k L' hk e => by
        rw [nth_nset] at hk
        split at hk
        · cases hk
        · rename_i hne
          have hki : id ≠ k := fun e => hne ⟨e.symm, nth_lt hL⟩
          exact hI.rh.inj id k L L' _ hki hL hk hh rfl e.symm
      have hI' := hIk.reuse (b := c) (L := ⟨L.b, L.base, L.n, L.sz, E.len c⟩) (c := c') (t := t0) (fz := fz) (w' := w') hwb hdead (by rw [hcsz]; exact h2) (fun j s hj => by
        rcases hcells j s hj with ⟨hlt, hj⟩ | ⟨hge, hj⟩
        · obtain ⟨v, hv, hr⟩ := h3 _ _ hj
          refine ⟨v, ?_, hr.ext hext⟩
          rw [hc', if_neg (by simp only []; omega)]
          exact hv
        · obtain ⟨v, hv, hr⟩ := hnews.nth hj
          have hjl := nth_lt hj
          have hnl2 := hnews.length
          refine ⟨v, ?_, hr.ext hext⟩
          rw [hc', if_pos (by simp only []; omega), ← hv]
          simp only []
          congr 1; omega) ⟨hf.1.trans hcs.symm, rfl⟩ ⟨by rw [hcsz]; exact (h4 rfl).1 rfl, by rw [hce]; exact (h4 rfl).2.1, (h4 rfl).2.2⟩ ht
      refine ⟨_, _, _, by rw [hsv, hf.2]; exact hrun2, hext.trans (.push _ _), hI', rfl, ?_⟩
      rw [← hlenk, nth_last]
      refine ⟨rfl, cap, by rw [hcl], by rw [hcl]; exact hroom, hcap2⟩
    · have hb1' : E.len b = 0 → False := fun e => by rw [hf.2] at hcap1; omega
      refine grow _ _ _ vs hsv hf.2 (by rw [hf.2]; omega) hvs ?_ hb1'
      rw [hf.2]
      exact run_firstCells_some w.drew inf2.size (E.len a) ⟨L.b, L.base, none⟩ _ _ vs (by rw [hvl, hsp]) (fun j v hv => by rw [addr_add]; exact hcell j v hv)
  · obtain ⟨hsv, hnlt, _⟩ := hs2
    subst hnlt
    have hcv : E.cells a = [] := hcv
    obtain ⟨infa, _, _, hpos⟩ := ok.info a
    have hl := ok.cells_len a
    rw [hcv] at hl
    have hla : E.len a = 0 := by
      rcases Nat.mul_eq_zero.1 hl.symm with h | h
      · exact h
      · omega
    by_cases h0 : E.len b = 0
    · rw [h0] at hSrc
      rw [h0]
      have hcc0 : E.cells c = [] := by
        have hlb := ok.cells_len b
        rw [h0, Nat.zero_mul] at hlb
        rw [hcc, hcv, List.eq_nil_of_length_eq_zero hlb]; rfl
      refine ⟨.slice none 0 0, _, w, by rw [hsv]; exact append_nil_run hu hinf2 hSrc, hext.trans (.push _ _), hIk.virt hcc0, rfl, ?_⟩
      rw [← hlenk, nth_last]
      exact ⟨rfl, rfl, trivial⟩
    · have hne : Nat.beq (E.len b) 0 = false := by
        cases hbq : Nat.beq (E.len b) 0 with
        | false => rfl
        | true => exact absurd (Nat.eq_of_beq_eq_true hbq) h0
      rw [hne]
      refine grow none 0 0 [] hsv hla.symm (by omega) (by rw [hcv]; trivial) ?_ h0
      exact run_firstCells_none w.drew inf2.size 0 0 0

theorem copyK_ok (ok : EnvOk E) {H : Hp E} {t u ty e : TypeId} {ti tu : TI} {x : AV} {id : Nat} {win : Option (Nat × Nat × Nat)} {nl : Bool} {K : AV → Hp E → Option R} {r : R} (hti : E.ty t = some ti) (htu : E.ty u = some tu) (hsh : ti.shp = .slice e)
    (hxk : (∃ e', tu.shp = .slice e' ∧ ∀ y, x ≠ .sc (.str y)) ∨ (tu.shp = .str ∧ ∀ i w n, x ≠ .sc (.slc i w n))) (h : copyK E H e id win (some x) K = some r) :
    ∃ v H', K v H' = some r ∧ ∀ (φ0 : List PE) (H0 : Hp E) (w0 : World) (φ : List PE) (w : World) (sv xv : Value), φ0.length = H0.length → Inv φ0 H0 w0 φ H w → RA φ (.sc (.slc id win nl)) sv → RA φ x xv →
      ∃ rv φ' w', (Builtin.copy_ #[t, u] ty #[sv, xv]).run E.P w = .ok rv w' ∧ Ext φ φ' ∧ Inv φ0 H0 w0 φ' H' w' ∧ RA φ' v rv := by
  obtain ⟨inf, d, hinf, hu, hsz, hby, hag, hshp, _⟩ := (ty_ok ok hti).ok
  obtain ⟨infu, du, hinfu, huu, _, _, _, hshpu, _⟩ := (ty_ok ok htu).ok
  rw [hsh] at hshp
  have hd : d = .slice e := hshp
  subst hd
  unfold copyK at h
  obtain ⟨b, h, hsrc⟩ := srcK_ok ok h
  obtain ⟨a0, row, n, ex, ro, h, hh0, hwin, hq⟩ := winK_ok ok h
  obtain ⟨hb, h⟩ := cond_none_right h
  simp only [Bool.and_eq_true] at hb
  have hbe : e = E.elt a0 := Nat.eq_of_beq_eq_true hb.1
  have hb2 : E.len b ≤ n := Nat.le_of_ble_eq_true hb.2
  obtain ⟨a, a', hh, hK, he, hs, hl, hbs, hle, hc⟩ := ovHK_some ok h
  rw [hh] at hh0; cases hh0
  obtain ⟨inf2, hinf2, hinf2s, _⟩ := ok.info a0
  rw [← hbe] at hinf2
  refine ⟨_, _, hK, fun φ0 H0 w0 φ w sv xv hl0 hI hsv hx => ?_⟩
  obtain ⟨news, hSrc, hnews⟩ := hsrc φ w xv u inf2.size hI.rh hx (by rw [hbs, hinf2s]) (by
      rcases hxk with ⟨e', h1, _⟩ | ⟨h1, _⟩ <;> rw [h1] at hshpu
      · exact .inl ⟨e', by rw [huu]; exact congrArg some hshpu⟩
      · exact .inr (by rw [huu]; exact congrArg some hshpu)) (fun ⟨y, hy⟩ => by
      rcases hxk with ⟨e', h1, h2⟩ | ⟨h1, _⟩
      · exact absurd hy (h2 y)
      · rw [h1] at hshpu; rw [huu]; exact congrArg some hshpu) (fun ⟨i, w, n, hy⟩ => by
      rcases hxk with ⟨e', h1, h2⟩ | ⟨h1, h2⟩
      · rw [h1] at hshpu; exact ⟨e', by rw [huu]; exact congrArg some hshpu⟩
      · exact absurd hy (h2 i w n))
  have hmin : Nat.min (E.len b) n = E.len b := Nat.min_eq_left hb2
  rcases winK_ov ok hh hbs he hs hl (k := 0) (by rw [Nat.add_zero]; exact hle) (by omega) (by rw [Nat.add_zero]; exact hc) hl0 hI (hq φ w nl sv hI.rh hsv) hnews with ⟨rfl, _, hn0, _, hlb, hnn, hI'⟩ | ⟨L, off, cap, w', _, rfl, hcap, hrun, hI'⟩
  · refine ⟨.int .i64 (E.len b : Nat), φ, w, ?_, .refl _, hI', rfl⟩
    rw [hlb] at hSrc
    simp [Builtin.copy_, run_underlying' hu, run_sizeOf' hinf2, hSrc.len, hSrc.cells, goInt, hlb]
  · refine ⟨.int .i64 (E.len b : Nat), φ, w', ?_, .refl _, hI', rfl⟩
    rw [Nat.zero_mul, Nat.add_zero] at hrun
    simp [Builtin.copy_, run_underlying' hu, run_sizeOf' hinf2, hSrc.len, hmin, hSrc.cells, goInt, hrun]

theorem clear_ok (ok : EnvOk E) {H : Hp E} {t ty e : TypeId} {ti : TI} {id : Nat} {win : Option (Nat × Nat × Nat)} {nl : Bool} {K : AV → Hp E → Option R} {r : R} (hti : E.ty t = some ti) (hsh : ti.shp = .slice e)
    (h : (winK E H id win fun a r n _ => cond (Nat.beq e (E.elt a)) (E.zeroK e n fun z => ovHK E H id r z fun H => K (.tup []) H) none) = some r) :
    ∃ v H', K v H' = some r ∧ ∀ (φ0 : List PE) (H0 : Hp E) (w0 : World) (φ : List PE) (w : World) (sv : Value), φ0.length = H0.length → Inv φ0 H0 w0 φ H w → RA φ (.sc (.slc id win nl)) sv →
      ∃ rv φ' w', (Builtin.clear_ #[t] ty #[sv]).run E.P w = .ok rv w' ∧ Ext φ φ' ∧ Inv φ0 H0 w0 φ' H' w' ∧ RA φ' v rv := by
  obtain ⟨inf, d, hinf, hu, hsz, hby, hag, hshp, _⟩ := (ty_ok ok hti).ok
  rw [hsh] at hshp
  have hd : d = .slice e := hshp
  subst hd
  obtain ⟨a0, row, n, ex, ro, h, hh0, hwin, hq⟩ := winK_ok ok h
  obtain ⟨hb, h⟩ := cond_none_right h
  have hbe : e = E.elt a0 := Nat.eq_of_beq_eq_true hb
  obtain ⟨z, h, hze, hzl, tz, zz, htz, hzz, hzzl, hzc⟩ := ok.zeroK _ _ _ _ h
  obtain ⟨a, a', hh, hK, he, hs, hl, hbs, hle, hc⟩ := ovHK_some ok h
  rw [hh] at hh0; cases hh0
  obtain ⟨inf2, d2, hinf2, hu2, hsz2, hby2, _, _, ⟨zv, hz, hzs, hzcs, _⟩, _⟩ := (ty_ok ok htz).ok
  refine ⟨_, _, hK, fun φ0 H0 w0 φ w sv hl0 hI hsv => ?_⟩
  have hzall : All2 (RS φ) zz zv.cells.toList := zc_plain_all zz _ (by rw [← hzz]; exact hzcs)
  have hnews : All2 (RS φ) (E.cells z) (Builtin.zeroCells zv.cells n).toList := by
    have hzl2 : zz.length = zv.cells.size := by have := hzall.length; simpa using this
    refine All2.of_nth ?_ fun j s hj => ?_
    · rw [ok.cells_len, hzl, ← hzzl, hzl2, Array.length_toList, size_zeroCells]
    · rw [hzc, nth_flatten_replicate] at hj
      split at hj
      · rename_i hlt
        obtain ⟨v, hv, hr⟩ := hzall.nth hj
        refine ⟨v, ?_, hr⟩
        have hm : j % zz.length < zv.cells.size := by
          rw [← hzl2]
          exact Nat.mod_lt _ (by
            rcases Nat.eq_zero_or_pos zz.length with h0 | h0
            · rw [h0] at hlt; simp at hlt
            · exact h0)
        unfold Builtin.zeroCells
        simp only [Array.toList_map, Array.toList_range, List.getElem?_map]
        rw [List.getElem?_range (by rw [← hzl2]; exact hlt)]
        simp only [Option.map_some]
        rw [← hzl2]
        rw [Array.getElem?_toList] at hv
        rw [getElem!_def, hv]
      · cases hj
  rcases winK_ov ok hh hbs he hs hl (k := 0) (by rw [Nat.add_zero]; exact hle) (by
    rw [hzl]; omega) (by rw [Nat.add_zero]; exact hc) hl0 hI (hq φ w nl sv hI.rh hsv) hnews with ⟨rfl, _, hn0, _, hlb, hnn, hI'⟩ | ⟨L, off, cap, w', _, rfl, hcap, hrun, hI'⟩
  · refine ⟨.tuple #[], φ, w, ?_, .refl _, hI', [], rfl, trivial⟩
    simp [Builtin.clear_, run_underlying' hu]
  · refine ⟨.tuple #[], φ, w', ?_, .refl _, hI', [], rfl, trivial⟩
    rw [Nat.zero_mul, Nat.add_zero] at hrun
    cases n with
    | zero =>
      have : (Builtin.zeroCells zv.cells 0).toList = [] := by simp [Builtin.zeroCells]
      rw [this] at hrun
      simp [storeCells] at hrun
      subst hrun
      simp [Builtin.clear_, run_underlying' hu]
    | succ n =>
      simp [Builtin.clear_, run_underlying' hu, run_zeroValue' hinf2 hz, hrun]
end
end Go.Eng
