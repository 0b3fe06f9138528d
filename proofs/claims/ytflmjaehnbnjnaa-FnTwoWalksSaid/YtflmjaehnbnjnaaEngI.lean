import Derived.Test.YtflmjaehnbnjnaaEngH
set_option linter.all false
namespace Go.Eng
open Go Go.RowKit

section
variable {E : Env} {R : Type}

theorem foldl_push (ns : List Int) (s : ByteArray) : ns.foldl (fun r n => r.push (UInt8.ofNat n.toNat)) s = ⟨s.data ++ (ns.map fun x => UInt8.ofNat x.toNat).toArray⟩ := by
  induction ns generalizing s with
  | nil => simp
  | cons n ns ih =>
    simp only [List.foldl_cons, ih, List.map_cons]
    congr 1
    apply Array.ext'
    simp [ByteArray.push]

theorem convert_ok (ok : EnvOk E) {o : Oper} {F : Fr} {H : Hp E} {src dst : TypeId} {x : Operand} {K : AV → Hp E → Option R} {r : R} (ho : o.op = .convert src dst x)
    (h : (oK (E.ty src) fun ts => oK (E.ty dst) fun td => match ts.shp, td.shp, ev F x with
      | .int _, .int k, some (.sc (.int _ n)) => K (.sc (.int k (k.wrap n))) H
      | .str, .str, some (.sc (.str s)) => K (.sc (.str s)) H
      | .str, .slice e, some (.sc (.str s)) => oK (E.ty e) fun te => match te.shp with
        | .int .u8 => E.bytesK e s fun b => newK E H (.rows b) fun id H => K (.sc (.slc id none false)) H
        | _ => none
      | .slice e, .str, some (.sc (.slc id w _)) => oK (E.ty e) fun te => match te.shp with
        | .int .u8 => winK E H id w fun b r n _ => E.strK b r n fun s => K (.sc (.str s)) H
        | _ => none
      | _, _, _ => none) = some r) : ∃ v H', K v H' = some r ∧ RunOk E o F H v H' := by
  obtain ⟨ts, hts, h⟩ := oK_some h
  obtain ⟨td, htd, h⟩ := oK_some h
  obtain ⟨inf, d, hinf, hu, hsz, hby, hag, hshp, _⟩ := (ty_ok ok hts).ok
  obtain ⟨inf', d', hinf', hu', hsz', hby', hag', hshp', _⟩ := (ty_ok ok htd).ok
  have hex : ∀ a : Act, execOp a.eval o = (do Pure.pure (.value (← convert src dst (a.eval x)))) := fun a => by unfold execOp; rw [ho]
  split at h
  · rename_i k0 k k1 n hs1 hs2 hx
    rw [hs2] at hshp'
    have hd' : d' = .int k := hshp'
    rw [hs1] at hshp
    have hd : d = .int k0 := hshp
    subst hd; subst hd'
    refine ⟨_, _, h, RunOk.pure fun φ a w hr hF => ?_⟩
    obtain ex : a.eval x = .int k1 n := ev_ok hx hF
    refine ⟨_, exec_v (hex a) ?_, rfl⟩
    rw [ex]
    simp [convert, run_underlying' hu, run_underlying' hu', Conv.intToInt]
  · rename_i s hs1 hs2 hx
    rw [hs2] at hshp'
    have hd' : d' = .string := hshp'
    rw [hs1] at hshp
    have hd : d = .string := hshp
    subst hd; subst hd'
    refine ⟨_, _, h, RunOk.pure fun φ a w hr hF => ?_⟩
    obtain ex : a.eval x = .string s := ev_ok hx hF
    refine ⟨_, exec_v (hex a) ?_, rfl⟩
    rw [ex]
    simp [convert, run_underlying' hu, run_underlying' hu']
  · rename_i e s hs1 hs2 hx
    rw [hs2] at hshp'
    have hd' : d' = .slice e := hshp'
    rw [hs1] at hshp
    have hd : d = .string := hshp
    subst hd; subst hd'
    obtain ⟨te, hte, h⟩ := oK_some h
    split at h
    · rename_i hs3
      obtain ⟨inf3, d3, hinf3, hu3, _, _, _, hshp3, _⟩ := (ty_ok ok hte).ok
      rw [hs3] at hshp3
      have hd3 : d3 = .int .u8 := hshp3
      subst hd3
      obtain ⟨b, hK, hbe, hbs, hbl, hbc⟩ := ok.bytesK _ _ _ _ h
      refine ⟨_, _, hK, fun φ0 H0 w0 φ a w hl hI hF => ?_⟩
      obtain ex : a.eval x = .string s := ev_ok hx hF
      have hp : Pushed w (Lib.bytesWorld w e s) (.cells (Lib.bytesCells w e s) e ((Lib.bytesCells w e s).size, (Lib.bytesCells w e s).size + 1)) :=
        ⟨⟨rfl, rfl, rfl⟩, Lib.bytesWorld_size w e s, fun k hk => Lib.bytesWorld_at_old w e s k hk, Lib.bytesWorld_at_new w e s⟩
      have hcap := grownCap_ge w s.size 0 e
      have hcs : (Lib.bytesCells w e s).size = grownCap w s.size 0 e := by
        have h1 : s.data.size = s.size := rfl
        simp [Lib.bytesCells, h1]; omega
      obtain ⟨L, hLb, hLbase, hLn, hLsz, hLlen, hI'⟩ := hI.newRows (b := b) (fun j sv hj => by
        rw [hbc, nth_map] at hj
        obtain ⟨c, hc, rfl⟩ := Option.map_eq_some_iff.1 hj
        refine ⟨.int .u8 (c.toNat : Int), ?_, rfl⟩
        rw [nth_eq] at hc
        have hlt : j < s.data.size := by have := (List.getElem?_eq_some_iff.1 hc).1; simpa using this
        have hc' : s.data[j]? = some c := by simpa using hc
        simp only [Lib.bytesCells]
        rw [Array.getElem?_append, if_pos (by simpa using hlt), Array.getElem?_map, hc']
        rfl) ⟨fun o ho => by simp; omega, hbe.symm⟩ hp
      refine ⟨_, _, _, _, exec_ok (hex a) (by rw [ex]; exact Lib.run_convert_string_bytes w src dst e s hu hu' hu3), .inl rfl, .push _ _, hI', ?_⟩
      have := RS_last_slc (φ := φ) (L := L) (n := H.length) (cap := grownCap w s.size 0 e) hI.rh.len hLbase (by rw [hLlen, hbl]; exact hcap) (by rw [hLsz, hbs, hLn, hcs]; omega)
      rw [hLb, hLlen, hbl] at this
      exact this
    · cases h
  · rename_i e id win nl hs1 hs2 hx
    rw [hs2] at hshp'
    have hd' : d' = .string := hshp'
    rw [hs1] at hshp
    have hd : d = .slice e := hshp
    subst hd; subst hd'
    obtain ⟨te, hte, h⟩ := oK_some h
    split at h
    · rename_i hs3
      obtain ⟨inf3, d3, hinf3, hu3, _, _, _, hshp3, _⟩ := (ty_ok ok hte).ok
      rw [hs3] at hshp3
      have hd3 : d3 = .int .u8 := hshp3
      subst hd3
      obtain ⟨b, row, n, ext, ro, h, hh, _, hq⟩ := winK_ok ok h
      obtain ⟨ns, hK, hsz1, hle, hns, hseg⟩ := ok.strK _ _ _ _ _ h
      refine ⟨_, _, hK, RunOk.pure fun φ a w hr hF => ?_⟩
      have hs : RS φ (.slc id win nl) (a.eval x) := ev_ok hx hF
      have hsr := hq φ w nl (a.eval x) hr hs
      cases hsr with
      | nil hv hφ hn he hnl =>
        have : ns = [] := by rw [hn] at hns; simpa using hns
        subst this
        refine ⟨_, exec_v (hex a) ?_, rfl⟩
        rw [hv, run_convert_bytes_string w src dst e _ _ _ hu hu3 hu']
        rfl
      | «at» L off cap hφ hv hc ho2 hb4 hnl =>
        obtain ⟨L', hL', hb'⟩ : ∃ L', nth φ id = some (.at L') ∧ RB φ ⟨ro, .rows b⟩ L' w := by
          rcases hr.some_ hh with ⟨L', hL', hb'⟩ | ⟨hL', _⟩ | hL'
          · exact ⟨L', hL', hb'⟩
          · rw [hφ] at hL'; cases hL'
          · rw [hφ] at hL'; cases hL'
        rw [hφ] at hL'; cases hL'
        have hLsz : L.sz = 1 := (hb'.fits : _ ∧ _).1.trans hsz1
        refine ⟨.string ((ns.foldl (fun r n => r.push (UInt8.ofNat n.toNat)) ByteArray.empty)), exec_v (hex a) ?_, ?_⟩
        · rw [hv, run_convert_bytes_string w src dst e _ _ _ hu hu3 hu']
          refine run_bytesToString w _ n cap ns ?_
          obtain ⟨⟨c, t', fz, h1, h2, h3, _⟩, _⟩ := hb'
          rcases Nat.eq_zero_or_pos n with h0 | hpos
          · have : ns = [] := by rw [h0] at hns; simpa using hns
            subst this
            rw [h0]; rfl
          · have hoff : off = L.base + row := by
              rcases ho2 with h0 | h0
              · omega
              · rw [h0, hLsz, Nat.mul_one]
            rw [run_loadCells' h1 (by rw [hLsz] at hb4; omega)]
            congr 1
            apply Array.ext'
            have := extract_all2 (φ := φ) (l := seg (E.cells b) row n) (c := c) (o := off) (by rw [seg_length _ _ _ (by rw [ok.cells_len, hsz1]; omega)]; rw [hLsz] at hb4; omega) (fun j sv hj => by
              rw [nth_seg] at hj
              split at hj
              · obtain ⟨v, hv, hr⟩ := h3 _ _ hj
                exact ⟨v, by rw [hoff, ← hv]; congr 1; omega, hr⟩
              · cases hj)
            rw [seg_length _ _ _ (by rw [ok.cells_len, hsz1]; omega), hseg] at this
            generalize (c.extract off (off + n)).toList = vs at this
            clear hseg hns hK h hv hx hs hq
            induction ns generalizing vs with
            | nil => cases vs <;> first | rfl | exact this.elim
            | cons y ys ih =>
              cases vs with
              | nil => exact this.elim
              | cons v vs =>
                obtain ⟨h5, h6⟩ := this
                have h5 : v = .int .u8 y := h5
                rw [h5, List.map_cons, ih vs h6]
        · show Value.string _ = Value.string _
          rw [foldl_push]
          simp
    · cases h
  · cases h
end
end Go.Eng
