import Derived.Test.YtflmjaehnbnjnaaOpn
import Derived.Lib.Join
import Derived.Lib.Repeat
import Derived.Lib.UnsafeStr
set_option linter.all false
namespace Go.Eng
open Go Go.RowKit

section
variable {E : Env}

theorem Inv.of_below {φ : List PE} {H : Hp E} {w w' : World} (hr : RH φ H w) (h : Below w.heap.size w w') : Inv φ H w φ H w' := by
  have hI := Inv.refl hr
  refine ⟨hr.same fun b hb => h.block b hb, hI.base, hI.hle, hI.rosame, hI.robase, hI.newro, hI.fresh, ⟨h.os, h.tape, h.output⟩, h.size, fun b hb => ?_⟩
  rcases Nat.lt_or_ge b w.heap.size with h1 | h1
  · exact h.block b h1
  · exact absurd (.inl h1) hb

def FnThere (E : Env) (f : FuncId) : Prop := ∃ fn, E.P.funcs[f]? = some fn ∧ (fn.name == "runtime.NumGoroutine") = false ∧ fn.body.isNone = false

def joinB (l : List ByteArray) (sep : ByteArray) : ByteArray := ⟨(Lib.join (l.map (·.data.toList)) sep.data.toList).toArray⟩
def joinOk (l : List ByteArray) (sep : ByteArray) : Bool := Nat.ble l.length 140737488355328 && Nat.ble (Lib.join (l.map (·.data.toList)) sep.data.toList).length 140737488355328

theorem join_sim {f : FuncId} (hf : FnThere E f) (h0 : ∀ (a : Option Addr) (c : Nat) (sep : ByteArray) (w : World), Calls E.P f #[.slice a 0 c, .string sep] w fun e w' => e = .returned (.string .empty) ∧ w' = w)
    (h1 : ∀ (bk o c : Nat) (xs : List ByteArray) (sep : ByteArray) (w : World), (∀ (j : Nat) x, xs[j]? = some x → w.cell? ⟨bk, o + j, none⟩ = some (.string x)) → bk < w.heap.size → xs.length ≤ 140737488355328 → xs.length ≤ c →
      (Lib.join (xs.map (·.data.toList)) sep.data.toList).length ≤ 140737488355328 → Calls E.P f #[.slice (some ⟨bk, o, none⟩) xs.length c, .string sep] w fun e w' => e = .returned (.string ⟨(Lib.join (xs.map (·.data.toList)) sep.data.toList).toArray⟩) ∧ Below w.heap.size w w')
    {b : E.B} {l : List ByteArray} (hc : E.cells b = l.map SV.str) (hl : E.len b = l.length) {ro nl : Bool} {sep : ByteArray} (hok : joinOk l sep = true) :
    Sim E f [.sc (.slc 0 none nl), .sc (.str sep)] [some ⟨ro, .rows b⟩] (.sc (.str (joinB l sep))) [some ⟨ro, .rows b⟩] := by
  refine ⟨hf, fun φ w av hav hr => ?_⟩
  simp only [joinOk, Bool.and_eq_true] at hok
  have hb1 := Nat.le_of_ble_eq_true hok.1
  have hb2 := Nat.le_of_ble_eq_true hok.2
  match av, hav with
  | [sv, pv], ⟨hs, hp, _⟩ =>
    obtain rfl : pv = .string sep := hp
    obtain ⟨_, hs2⟩ := (hs : RS φ (.slc 0 none nl) sv)
    rcases hr.some_ (i := 0) rfl with ⟨L, hL, hb⟩ | ⟨hL, hcv, _⟩ | hL <;> rw [hL] at hs2
    case inr.inr => exact hs2.elim
    · obtain ⟨_, cap, rfl, h3, h4⟩ := hs2
      obtain ⟨⟨c, t, fz, e1, e2, e3, _⟩, hf2⟩ := hb
      have hf2 : L.sz = E.sz b ∧ L.len = E.len b := hf2
      have hlen : L.len = l.length := hf2.2.trans hl
      have hlt : L.b < w.heap.size := by
        rcases Nat.lt_or_ge L.b w.heap.size with h | h
        · exact h
        · rw [Array.getElem?_eq_none h] at e1; cases e1
      have := h1 L.b L.base cap l sep w (fun j x hx => by
        have hn : nth (E.cells b) j = some (.str x) := by rw [hc, nth_map, nth_eq, hx]; rfl
        obtain ⟨v, hv, hr⟩ := e3 j _ hn
        have hr : v = .string x := hr
        rw [cell_of e1, hv, hr]) hlt hb1 (by omega) hb2
      rw [← hlen] at this
      refine this.mono ?_
      rintro e w' ⟨rfl, hw⟩
      exact ⟨_, φ, rfl, Inv.of_below hr hw, rfl⟩
    · obtain ⟨rfl, _, _⟩ := hs2
      have hl0 : l = [] := by
        have h5 : E.cells b = [] := hcv
        rw [hc] at h5
        simpa using h5
      subst hl0
      refine (h0 none 0 sep w).mono ?_
      rintro e w' ⟨rfl, rfl⟩
      exact ⟨_, φ, rfl, Inv.refl hr, rfl⟩

def repB (s : ByteArray) (n : Int) : ByteArray := ⟨(Lib.repeatL s.data.toList n.toNat).toArray⟩
def repOk (s : ByteArray) (n : Int) : Bool := decide (0 ≤ n) && Nat.ble n.toNat 9223372036854775807 && Nat.ble (s.size * n.toNat) 140737488355328

theorem rep_sim {f : FuncId} (hf : FnThere E f) (h1 : ∀ (s : ByteArray) (c : Nat) (w : World), c ≤ 9223372036854775807 → s.size * c ≤ 140737488355328 → Calls E.P f #[.string s, .int .i64 c] w fun e w' => e = .returned (.string ⟨(Lib.repeatL s.data.toList c).toArray⟩) ∧ Below w.heap.size w w')
    {s : ByteArray} {n : Int} (hok : repOk s n = true) : Sim E f [.sc (.str s), .sc (.int .i64 n)] [] (.sc (.str (repB s n))) [] := by
  refine ⟨hf, fun φ w av hav hr => ?_⟩
  simp only [repOk, Bool.and_eq_true, decide_eq_true_eq] at hok
  match av, hav with
  | [sv, pv], ⟨hs, hp, _⟩ =>
    obtain rfl : pv = .int .i64 n := hp
    obtain rfl : sv = .string s := hs
    have := h1 s n.toNat w (Nat.le_of_ble_eq_true hok.1.2) (Nat.le_of_ble_eq_true hok.2)
    rw [show ((n.toNat : Nat) : Int) = n by omega] at this
    refine this.mono ?_
    rintro e w' ⟨rfl, hw⟩
    exact ⟨_, φ, rfl, Inv.of_below hr hw, rfl⟩

theorem setCell_touch {w : World} {b off : Nat} {c : Array Value} {t : TypeId} {fz : Nat × Nat} {v : Value} (h : w.heap[b]? = some (.cells c t fz)) :
    Touch b (.cells (c.setIfInBounds off v) t fz) w (w.setCell ⟨b, off, none⟩ v) := by
  refine ⟨⟨rfl, rfl, rfl⟩, by simp [World.setCell], fun k hk => ?_, ?_⟩
  · simp only [World.setCell, Array.getElem?_modify]
    rw [if_neg (by simpa using fun e => hk e.symm)]
  · simp only [World.setCell, Array.getElem?_modify, h]
    simp

theorem ccheck_sim {f : FuncId} (hf : FnThere E f) {T : TypeId}
    (h0 : ∀ (b : Nat) (w : World), w.cell? ⟨b, 0, none⟩ = some (.pointer (some ⟨b, 0, none⟩)) → Calls E.P f #[.pointer (some ⟨b, 0, none⟩)] w fun e w' => e = .returned (.tuple #[]) ∧ w' = w)
    (h1 : ∀ (b : Nat) (w : World), w.cell? ⟨b, 0, none⟩ = some (.pointer none) → w.shape? b = some (T, 2) → w.frozen? ⟨b, 0, none⟩ = false → Calls E.P f #[.pointer (some ⟨b, 0, none⟩)] w fun e w' => e = .returned (.tuple #[]) ∧ w' = w.setCell ⟨b, 0, none⟩ (.pointer (some ⟨b, 0, none⟩)))
    {c0 c1 : SV} {rest : Hp E} (hc0 : c0 = .nilp ∨ c0 = .ptr 0 0 0) :
    Sim E f [.sc (.ptr 0 0 0)] (some ⟨false, .exp (some T) [c0, c1]⟩ :: rest) (.tup []) (some ⟨false, .exp (some T) [.ptr 0 0 0, c1]⟩ :: rest) := by
  refine ⟨hf, fun φ w av hav hr => ?_⟩
  match av, hav with
  | [pv], ⟨hp, _⟩ =>
    have hp : RP φ 0 0 0 pv := hp
    rcases hr.some_ (i := 0) rfl with ⟨L, hL, hb⟩ | ⟨_, _, b, hbb⟩ | hL
    · obtain ⟨_, hp2⟩ := hp
      rw [hL] at hp2
      have hp2 : pv = .pointer (some ⟨L.b, L.base + 0 * L.sz + 0, none⟩) := hp2
      obtain ⟨⟨c, t, fz, e1, e2, e3, e4⟩, hf2⟩ := hb
      obtain ⟨hfz, ht, hbase, hcs⟩ := e4 rfl
      have hfz2 := hfz rfl
      have hcs : c.size = 2 := hcs
      rw [hbase] at hp2
      simp only [Nat.zero_mul, Nat.add_zero] at hp2
      subst hp2
      subst ht
      obtain ⟨v0, hv0, hr0⟩ := e3 0 c0 rfl
      rw [hbase] at hv0
      have hcell0 : w.cell? ⟨L.b, 0, none⟩ = some v0 := by rw [cell_of e1]; exact hv0
      rcases hc0 with rfl | rfl
      · obtain rfl : v0 = .pointer none := hr0
        refine (h1 L.b w hcell0 (by simp [World.shape?, e1, hcs]) (by simp only [World.frozen?, e1]; exact hfz2 0 (by omega))).mono ?_
        rintro e w' ⟨rfl, rfl⟩
        have ht := setCell_touch (off := 0) (v := .pointer (some ⟨L.b, 0, none⟩)) e1
        refine ⟨_, φ, rfl, (Inv.refl hr).store (i := 0) hr.len hL rfl rfl (b := .exp (some t) [.ptr 0 0 0, c1]) (by simpa using e2) (fun j s hj => ?_) trivial ⟨fun _ => by simpa using hfz2, rfl, hbase, by simpa using hcs⟩ ht, [], rfl, trivial⟩
        rw [hbase, Nat.zero_add]
        match j, hj with
        | 0, hj =>
          cases hj
          refine ⟨.pointer (some ⟨L.b, 0, none⟩), by simp [hcs], rfl, ?_⟩
          rw [hL]
          simp [hbase]
        | 1, hj =>
          cases hj
          obtain ⟨v, hv, hr⟩ := e3 1 c1 rfl
          rw [hbase] at hv
          exact ⟨v, by rw [Array.getElem?_setIfInBounds_ne (by omega)]; exact hv, hr⟩
      · obtain ⟨_, hr0⟩ := (hr0 : RP φ 0 0 0 v0)
        rw [hL] at hr0
        have hr0 : v0 = .pointer (some ⟨L.b, L.base + 0 * L.sz + 0, none⟩) := hr0
        simp only [hbase, Nat.zero_mul, Nat.add_zero] at hr0
        subst hr0
        refine (h0 L.b w hcell0).mono ?_
        rintro e w' ⟨rfl, rfl⟩
        exact ⟨_, φ, rfl, Inv.refl hr, [], rfl, trivial⟩
    · cases hbb
    · obtain ⟨_, hp2⟩ := hp
      rw [hL] at hp2; exact hp2.elim

section
variable {P : Program} (w : World)
theorem run_loadBytesI : ∀ (l : List Int) (a : Addr) (acc : ByteArray), (∀ j x, l[j]? = some x → w.cell? (a.add j) = some (.int .u8 x)) →
    (loadBytes a acc l.length).run P w = .ok ⟨acc.data ++ (l.map fun x => UInt8.ofNat x.toNat).toArray⟩ w
  | [], a, acc, _ => by simp [loadBytes]
  | x :: l, a, acc, h => by
    have h0 : w.cell? a = some (.int .u8 x) := by
      have := h 0 x rfl
      simpa [Addr.add] using this
    have ih := run_loadBytesI l (a.add 1) (acc.push (UInt8.ofNat x.toNat)) (fun j y hy => by
      have := h (j + 1) y (by simpa using hy)
      have e : (a.add 1).add j = a.add (j + 1) := by
        unfold Addr.add
        by_cases hj : j = 0
        · subst hj; simp
        · simp [hj]; omega
      rw [e]; exact this)
    have hx : (x.toNat).toUInt8 = UInt8.ofNat x.toNat := rfl
    simp only [List.length_cons, loadBytes, Sem.run_bind, run_load, h0, Result.andThen, hx]
    rw [ih]
    congr 1
    apply ByteArray.ext
    simp [ByteArray.push]

theorem run_unsafeStringI (pt it ty e : TypeId) (hp : P.underlying pt = some (.pointer e)) (hc : P.cellsOf e = 1) (g cells : Nat) (hsh : w.shape? g = some (e, cells)) (l : List Int) (h0 : l ≠ []) (hn : l.length ≤ cells) (h63 : l.length ≤ 9223372036854775807)
    (hcell : ∀ j x, l[j]? = some x → w.cell? ⟨g, j, none⟩ = some (.int .u8 x)) :
    (Builtin.unsafeString_ #[pt, it] ty #[.pointer (some ⟨g, 0, none⟩), .int .i64 l.length]).run P w = .ok (.string (toBytes l)) (w.freeze ⟨g, 0, none⟩ l.length) := by
  have hl : l.length ≠ 0 := by simpa using h0
  have hlb := run_loadBytesI (P := P) w l ⟨g, 0, none⟩ .empty (fun j x hx => by rw [addr_add, Nat.zero_add]; exact hcell j x hx)
  have hlies := Lib.liesAt_bytes (P := P) hc (cells / P.cellsOf e) l.length (by rw [hc]; simpa using hn)
  have h63' : ¬ (9223372036854775807 : Int) < (l.length : Int) := by omega
  have hdef : Builtin.unsafeString_ #[pt, it] ty #[.pointer (some ⟨g, 0, none⟩), .int .i64 l.length] =
      (do
        let n ← asInt (.int .i64 l.length)
        if n < 0 then runtimePanic (.error "unsafe.String: len out of range")
        if n > IntKind.i64.max then unsupported (.unsafePointer "String: a length above the largest int")
        if n = 0 then pure (.string .empty)
        else if ← variablesAt ⟨g, 0, none⟩ (← elemOf pt) n.toNat then do
          let s ← loadBytes ⟨g, 0, none⟩ .empty n.toNat
          freeze ⟨g, 0, none⟩ n.toNat
          pure (.string s)
        else unsupported (.unsafePointer "String: not so many bytes at ptr")) := rfl
  rw [hdef]
  have hmax : IntKind.i64.max = 9223372036854775807 := rfl
  have hneg : ¬ (l.length : Int) < 0 := by omega
  simp [asInt, asIntOf, hmax, h63', hneg, hl, variablesAt, hsh, elemOf, run_underlying hp, hlies, hlb, toBytes]
end

theorem freeze_touch {w : World} {g n : Nat} {c : Array Value} {t : TypeId} {fz : Nat × Nat} (h : w.heap[g]? = some (.cells c t fz)) : ∃ fz', Touch g (.cells c t fz') w (w.freeze ⟨g, 0, none⟩ n) := by
  unfold World.freeze
  split
  · exact ⟨fz, .refl _, rfl, fun _ _ => rfl, h⟩
  · refine ⟨if fz.1 == fz.2 then (0, 0 + n) else (min fz.1 0, max fz.2 (0 + n)), ⟨rfl, rfl, rfl⟩, by simp, fun k hk => ?_, ?_⟩
    · simp only [Array.getElem?_modify]
      rw [if_neg (fun e => hk e.symm)]
    · simp only [Array.getElem?_modify, h]
      simp

theorem bstr_sim {f : FuncId} (hf : FnThere E f) {T e8 : TypeId}
    (h0 : ∀ (b : Nat) (w : World), w.cell? ⟨b, 1, none⟩ = some (.slice none 0 0) → Calls E.P f #[.pointer (some ⟨b, 0, none⟩)] w fun e w' => e = .returned (.string .empty) ∧ w' = w.drew)
    (h1 : ∀ (b g cells cap : Nat) (l : List Int) (w : World), l ≠ [] → cap ≠ 0 → w.cell? ⟨b, 1, none⟩ = some (.slice (some ⟨g, 0, none⟩) l.length cap) → w.shape? g = some (e8, cells) → l.length ≤ cells → l.length ≤ 9223372036854775807 →
      (∀ (j : Nat) x, l[j]? = some x → w.cell? ⟨g, j, none⟩ = some (.int .u8 x)) → Calls E.P f #[.pointer (some ⟨b, 0, none⟩)] w fun e w' => e = .returned (.string (toBytes l)) ∧ w' = w.drew.freeze ⟨g, 0, none⟩ l.length)
    {c0 : SV} {nl fr : Bool} {b : E.B} {l : List Int} (hc : E.cells b = l.map (SV.int .u8)) (hl : E.len b = l.length) (hs : E.sz b = 1) (he : E.elt b = e8) (hbb : nl = true ∧ fr = false ∨ nl = false ∧ l ≠ [] ∧ l.length ≤ 9223372036854775807) :
    Sim E f [.sc (.ptr 0 0 0)] [some ⟨false, .exp (some T) [c0, .slc 1 none nl]⟩, some ⟨false, cond fr (.frz b) (.rows b)⟩] (.sc (.str (cond nl .empty (toBytes l)))) [some ⟨false, .exp (some T) [c0, .slc 1 none nl]⟩, some ⟨false, cond nl (.rows b) (.frz b)⟩] := by
  refine ⟨hf, fun φ w av hav hr => ?_⟩
  match av, hav with
  | [pv], ⟨hp, _⟩ =>
    have hp : RP φ 0 0 0 pv := hp
    rcases hr.some_ (i := 0) rfl with ⟨L, hL, hb0⟩ | ⟨_, _, b, hbb⟩ | hL
    · obtain ⟨_, hp2⟩ := hp
      rw [hL] at hp2
      have hp2 : pv = .pointer (some ⟨L.b, L.base + 0 * L.sz + 0, none⟩) := hp2
      obtain ⟨⟨c, t, fz, e1, e2, e3, e4⟩, hf2⟩ := hb0
      obtain ⟨hfz, ht, hbase, hcs⟩ := e4 rfl
      rw [hbase] at hp2
      simp only [Nat.zero_mul, Nat.add_zero] at hp2
      subst hp2
      obtain ⟨v1, hv1, hr1⟩ := e3 1 _ rfl
      rw [hbase] at hv1
      have hcell1 : w.cell? ⟨L.b, 1, none⟩ = some v1 := by rw [cell_of e1]; exact hv1
      have hr1 : RS φ (.slc 1 none nl) v1 := hr1
      obtain ⟨_, hs2⟩ := hr1
      rcases hbb with ⟨rfl, rfl⟩ | ⟨rfl, hne, hb⟩
      · -- nothing written
        have hv : v1 = .slice none 0 0 := by
          rcases hr.some_ (i := 1) rfl with ⟨L1, hL1, hb1⟩ | ⟨hL1, _⟩ | hL1 <;> rw [hL1] at hs2
          · cases hs2.1
          · exact hs2.1
          · exact hs2.elim
        subst hv
        refine (h0 L.b w hcell1).mono ?_
        rintro e w' ⟨rfl, rfl⟩
        exact ⟨_, φ, rfl, (Inv.refl hr).drew _, rfl⟩
      · have hcells1 : (cond fr (HB.frz b) (HB.rows b)).cells = E.cells b := by cases fr <;> rfl
        rcases hr.some_ (i := 1) rfl with ⟨L1, hL1, hb1⟩ | ⟨hL1, _⟩ | hL1 <;> rw [hL1] at hs2
        · obtain ⟨_, cap, rfl, h3, h4⟩ := hs2
          obtain ⟨⟨d, t1, fz1, d1, d2, d3, d4⟩, hf3⟩ := hb1
          have hf3 : L1.sz = E.sz b ∧ L1.len = E.len b := by cases fr <;> exact hf3
          have htb : t1 = E.elt b ∧ L1.base = 0 := by
            have := (d4 rfl).2
            cases fr <;> exact this
          obtain ⟨ht1, hb1⟩ := htb
          have hlen : L1.len = l.length := hf3.2.trans hl
          have hpos : 0 < l.length := List.length_pos_iff.2 hne
          rw [hb1, hlen] at hcell1
          have hds : l.length ≤ d.size := by
            rw [d2]
            rw [hb1, hf3.1, hs, Nat.mul_one] at h4
            omega
          refine (h1 L.b L1.b d.size cap l w hne (by omega) hcell1 (by simp [World.shape?, d1, ht1, he]) hds hb (fun j x hx => ?_)).mono ?_
          · have hn : nth (cond fr (HB.frz b) (HB.rows b)).cells j = some (.int .u8 x) := by rw [hcells1, hc, nth_map, nth_eq, hx]; rfl
            obtain ⟨v, hv, hr⟩ := d3 j _ hn
            have hr : v = .int .u8 x := hr
            rw [cell_of d1]
            rw [hb1, Nat.zero_add] at hv
            rw [hv, hr]
          · rintro e w' ⟨rfl, rfl⟩
            have d1' : w.drew.heap[L1.b]? = some (.cells d t1 fz1) := d1
            obtain ⟨fz', ht⟩ := freeze_touch (n := l.length) d1'
            have hI := (Inv.refl hr).drew (w.drawn + 1)
            refine ⟨_, φ, rfl, hI.store (i := 1) hr.len hL1 rfl rfl (b := .frz b) d2 (fun j s hj => ?_) hf3 ⟨fun h => (by cases h), ht1, hb1⟩ ht, rfl⟩
            have hj : nth (E.cells b) j = some s := hj
            exact d3 j s (by rw [hcells1]; exact hj)
        · obtain ⟨_, h5, _⟩ := hs2
          cases h5
        · exact hs2.elim
    · cases hbb
    · obtain ⟨_, hp2⟩ := hp
      rw [hL] at hp2; exact hp2.elim
end
theorem rtStr_map (t : TypeId) : ∀ l : List ByteArray, rtCells (rtStr t) l = l.map SV.str
  | [] => rfl
  | x :: l => by
    show (rtStr t).cells x ++ rtCells (rtStr t) l = _
    rw [rtStr_map t l]; rfl

section
variable {E : Env}

theorem Inv.newAt {φ0 : List PE} {H0 : Hp E} {w0 : World} {φ : List PE} {H : Hp E} {w : World} (h : Inv φ0 H0 w0 φ H w) {b : HB E} {L : Loc} {w' : World} (hL : w.heap.size ≤ L.b)
    (hnew : RB (φ ++ [.at L]) ⟨false, b⟩ L w') (hw : Calm w w') (hsz : w.heap.size ≤ w'.heap.size) (hsame : ∀ k, k < w.heap.size → w'.heap[k]? = w.heap[k]?) :
    Inv φ0 H0 w0 (φ ++ [.at L]) (H ++ [some ⟨false, b⟩]) w' := by
  refine ⟨⟨by simp [h.rh.len], fun i pe x hp hx => ?_, fun i j La Lb he hne ha hb' hh hro => ?_⟩, h.base.trans (.push _ _), by have := h.hle; simp; omega, fun i he h0 hr => nth_append_left (h.rosame i he h0 hr), fun i he hi hh => ?_, fun i he hi hh => ?_, fun i La hi ha => ?_, h.calm.trans hw, by have := h.size; omega, fun k hk => ?_⟩
  · rcases nth_push_cases hp with ⟨hi, hp⟩ | ⟨hi, rfl⟩
    · rcases nth_push_cases hx with ⟨_, hx⟩ | ⟨hi', _⟩
      · have := h.rh.ent i pe x hp hx
        cases pe <;> cases x <;> first | exact this | exact RB.mono this (.push _ _) (hsame _ (RB.lt this))
      · have := h.rh.len; omega
    · rcases nth_push_cases hx with ⟨hi', _⟩ | ⟨_, rfl⟩
      · have := h.rh.len; omega
      · exact hnew
  · rcases nth_push_cases ha with ⟨hi, ha⟩ | ⟨hi, hLa⟩
    · rcases nth_push_cases hh with ⟨_, hh⟩ | ⟨hi', _⟩
      · rcases nth_push_cases hb' with ⟨_, hb'⟩ | ⟨_, hLb⟩
        · exact h.rh.inj i j La Lb he hne ha hb' hh hro
        · cases hLb
          obtain ⟨he', _, hrb⟩ := h.rh.at_ ha
          have := hrb.lt
          omega
      · have := h.rh.len; omega
    · cases hLa
      rcases nth_push_cases hb' with ⟨_, hb'⟩ | ⟨hj, _⟩
      · obtain ⟨he', _, hrb⟩ := h.rh.at_ hb'
        have := hrb.lt
        omega
      · omega
  · rcases nth_push_cases hh with ⟨_, hh⟩ | ⟨hi', _⟩
    · exact h.robase i he hi hh
    · have := h.hle; omega
  · rcases nth_push_cases hh with ⟨_, hh⟩ | ⟨_, hh⟩
    · exact h.newro i he hi hh
    · cases hh; rfl
  · rcases nth_push_cases ha with ⟨_, ha⟩ | ⟨_, ha⟩
    · exact h.fresh i La hi ha
    · cases ha; left; have := h.size; omega
  · rw [← h.same k hk]
    refine hsame k ?_
    rcases Nat.lt_or_ge k w0.heap.size with h1 | h1
    · exact Nat.lt_of_lt_of_le h1 h.size
    · exact absurd (.inl h1) hk

theorem frames_sim (ok : EnvOk E) {f g : FuncId} (hf : FnThere E f) {t : Option TypeId} {cells : List SV} {b : E.B} {m : Nat} {ro : Bool}
    (h1 : ∀ (bk o : Nat) (w : World) (P : Nat → Nat → Nat → World → Prop), w.cell? ⟨bk, o + 8, none⟩ = some (.int .i64 m) →
      (Calls E.P g #[.slice (some ⟨bk, o + 6, none⟩) m 2] w.drew fun e w' => ∃ g a cap, e = .returned (.slice (some ⟨g, a, none⟩) m cap) ∧ P g a cap w') →
      Calls E.P f #[.pointer (some ⟨bk, o, none⟩)] w fun e w' => ∃ g a cap, e = .returned (.slice (some ⟨g, a, none⟩) m cap) ∧ P g a cap w')
    (hg : Sim E g [.sc (.slc 0 none false)] [some ⟨true, .rows b⟩] (.sc (.slc 1 none false)) [some ⟨true, .rows b⟩, some ⟨false, .rows b⟩])
    (hc : ∀ j s, nth (E.cells b) j = some s → nth cells (6 + j) = some s) (hlen : E.len b = m) (hs : E.sz b = 1) (h8 : nth cells 8 = some (.int .i64 m)) (hm : m ≤ 2) :
    Sim E f [.sc (.ptr 0 0 0)] [some ⟨ro, .exp t cells⟩] (.sc (.slc 1 none false)) [some ⟨ro, .exp t cells⟩, some ⟨false, .rows b⟩] := by
  refine ⟨hf, fun φ w av hav hr => ?_⟩
  match av, hav with
  | [pv], ⟨hp, _⟩ =>
    have hp : RP φ 0 0 0 pv := hp
    rcases hr.some_ (i := 0) rfl with ⟨L, hL, hb0⟩ | ⟨_, _, b', hbb⟩ | hL
    · obtain ⟨_, hp2⟩ := hp
      rw [hL] at hp2
      have hp2 : pv = .pointer (some ⟨L.b, L.base + 0 * L.sz + 0, none⟩) := hp2
      simp only [Nat.zero_mul, Nat.add_zero] at hp2
      subst hp2
      obtain ⟨⟨c, ty, fz, e1, e2, e3, e4⟩, hf2⟩ := hb0
      obtain ⟨v8, hv8, hr8⟩ := e3 8 _ h8
      have hr8 : v8 = .int .i64 m := hr8
      have c8 : w.cell? ⟨L.b, L.base + 8, none⟩ = some (.int .i64 m) := by rw [cell_of e1, hv8, hr8]
      have hcap : L.base + 8 < c.size := by
        rcases Nat.lt_or_ge (L.base + 8) c.size with h | h
        · exact h
        · rw [Array.getElem?_eq_none h] at hv8; cases hv8
      have hRH : RH [.at ⟨L.b, L.base + 6, c.size, 1, m⟩] ([some ⟨true, .rows b⟩] : Hp E) w.drew := by
        refine ⟨rfl, fun i pe x hp hx => ?_, fun i j La Lb he hne ha hb' hh hro => ?_⟩
        · match i, hp, hx with
          | 0, hp, hx =>
            cases hp; cases hx
            refine ⟨⟨c, ty, fz, e1, rfl, fun j s hj => ?_, fun h => by cases h⟩, ⟨hs.symm, hlen.symm⟩⟩
            have hj : nth (E.cells b) j = some s := hj
            obtain ⟨v, hv, hr⟩ := e3 (6 + j) s (hc j s hj)
            exact ⟨v, by rw [← hv]; congr 1; show L.base + 6 + j = _; omega, hr.plain (ok.plain b s (nth_mem hj))⟩
        · match i, ha with
          | 0, ha =>
            match j, hb', hne with
            | 0, _, hne => exact absurd rfl hne
      have hRA : All2 (RA [.at ⟨L.b, L.base + 6, c.size, 1, m⟩]) [.sc (.slc 0 none false)] [.slice (some ⟨L.b, L.base + 6, none⟩) m 2] :=
        ⟨⟨rfl, rfl, 2, rfl, hm, by show L.base + 6 + 2 * 1 ≤ c.size; omega⟩, trivial⟩
      have hcall := hg.2 _ w.drew _ hRA hRH
      have hnoWB : ∀ k, k < w.heap.size → ¬ WB [.at ⟨L.b, L.base + 6, c.size, 1, m⟩] ([some ⟨true, .rows b⟩] : Hp E) w.drew k := by
        rintro k hk (h | ⟨j, L0, he0, hj, _, hj2, hro⟩)
        · have h : w.heap.size ≤ k := h
          omega
        · match j, hj2 with
          | 0, hj2 => cases hj2; cases hro
      refine (h1 L.b L.base w (fun g a cap w' => ∃ L1 : Loc, g = L1.b ∧ a = L1.base ∧ L1.len = m ∧ m ≤ cap ∧ L1.base + cap * L1.sz ≤ L1.n ∧ w.heap.size ≤ L1.b ∧ RB (φ ++ [.at L1]) (⟨false, .rows b⟩ : HE E) L1 w' ∧ Calm w w' ∧ w.heap.size ≤ w'.heap.size ∧ ∀ k, k < w.heap.size → w'.heap[k]? = w.heap[k]?) c8 (hcall.mono ?_)).mono ?_
      · rintro e w' ⟨rv, φ', rfl, hI, hra⟩
        have hra : RS φ' (.slc 1 none false) rv := hra
        obtain ⟨_, hra2⟩ := hra
        rcases hI.rh.some_ (i := 1) rfl with ⟨L1, hL1, hb1⟩ | ⟨hL1, _⟩ | hL1 <;> rw [hL1] at hra2
        · obtain ⟨_, cap, rfl, h3, h4⟩ := hra2
          have hfit : L1.sz = E.sz b ∧ L1.len = E.len b := hb1.fits
          have hlm : L1.len = m := hfit.2.trans hlen
          refine ⟨L1.b, L1.base, cap, by rw [hlm], L1, rfl, rfl, hlm, by omega, h4, ?_, ?_, ⟨hI.calm.os, hI.calm.tape, hI.calm.output⟩, hI.size, fun k hk => hI.same k (hnoWB k hk)⟩
          · rcases hI.fresh 1 L1 (Nat.le_refl 1) hL1 with h | ⟨j, L0, he0, hj, _, hj2, hro⟩
            · exact h
            · match j, hj2 with
              | 0, hj2 => cases hj2; cases hro
          · obtain ⟨⟨c1, t1, fz1, d1, d2, d3, d4⟩, d5⟩ := hb1
            exact ⟨⟨c1, t1, fz1, d1, d2, fun j s hj => let ⟨v, hv, hr⟩ := d3 j s hj; ⟨v, hv, hr.plain (ok.plain b s (nth_mem hj))⟩, d4⟩, d5⟩
        · obtain ⟨_, h5, _⟩ := hra2
          cases h5
        · exact hra2.elim
      · rintro e w' ⟨g', a, cap, rfl, L1, rfl, rfl, hlm, h3, h4, h5, h6, h7, h8', h9⟩
        refine ⟨_, φ ++ [.at L1], rfl, (Inv.refl hr).newAt h5 h6 h7 h8' h9, ?_⟩
        refine ⟨rfl, ?_⟩
        have hl1 : φ.length = 1 := hr.len
        rw [← hl1, nth_last]
        exact ⟨rfl, cap, by rw [hlm], by omega, h4⟩
    · cases hbb
    · obtain ⟨_, hp2⟩ := hp
      rw [hL] at hp2; exact hp2.elim
end
end Go.Eng
