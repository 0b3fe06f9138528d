import Derived.Test.YtnopbegjbbbdhaaEnv
import Derived.Test.YtnopbegjbbbdhaaSpc
import Derived.Test.YtnopbegjbbbdhaaShelf
import Derived.Shelf.Strings.BuilderK
import Derived.Deep.RegionWith
set_option linter.all false
namespace Go.Proofs
open Go.Shelf Go.RowKit
set_option maxRecDepth 100000
set_option maxHeartbeats 4000000
theorem Try.copyCheck_used (b : Nat) (w : World) (h0 : w.cell? ⟨b, 0, none⟩ = some (.pointer (some ⟨b, 0, none⟩))) :
    Calls Try.prog 175 #[.pointer (some ⟨b, 0, none⟩)] w fun e w' => e = .returned (.tuple #[]) ∧ w' = w := by
  obtain ⟨j, hj⟩ : ∃ j, Try.prog.info? 185 = some j := ⟨Try.t185, by kernel_rfl⟩
  go_enter Try.func175, Try.ntmps175
  go_wp2
  rw [Lib.run_neq_ptr_same w _ Try.underlying183 hj]
  go_wp2
  go_end0
  exact ⟨rfl, rfl⟩

theorem Try.copyCheck_fresh (b : Nat) (w : World) (h0 : w.cell? ⟨b, 0, none⟩ = some (.pointer none)) (hsh : w.shape? b = some (185, 2)) (hfz : w.frozen? ⟨b, 0, none⟩ = false) :
    Calls Try.prog 175 #[.pointer (some ⟨b, 0, none⟩)] w fun e w' => e = .returned (.tuple #[]) ∧ w' = w.setCell ⟨b, 0, none⟩ (.pointer (some ⟨b, 0, none⟩)) := by
  obtain ⟨j, hj, hjs⟩ : ∃ j, Try.prog.info? 185 = some j ∧ j.size ≠ 0 := ⟨Try.t185, by kernel_rfl, by decide⟩
  have hlies : liesAt Try.prog Try.prog.depth 185 (2 / Try.prog.cellsOf 185) 0 185 1 = true := by kernel_rfl
  go_enter Try.func175, Try.ntmps175
  go_wp2
  rw [Lib.run_to_unsafe w ⟨b, 0, none⟩ Try.underlying183 Try.underlying199 hj hjs hsh (Nat.zero_lt_succ 1)]
  simp only [Result.andThen]
  rw [Oper.upon_value]
  go_wp2
  rw [run_callFunc_extern Try.func180 (by kernel_rfl) (by kernel_rfl) (by kernel_rfl) (e := Extern.AbiNoEscape.same) (by kernel_rfl)]
  rw [Lib.run_noEscape]
  simp only [Result.andThen]
  rw [Oper.upon_value]
  go_wp2
  rw [Lib.run_from_unsafe w ⟨b, 0, none⟩ Try.underlying199 Try.underlying183 hj hsh hlies]
  simp only [Result.andThen]
  rw [Oper.upon_value]
  go_wp2
  go_end0
  exact ⟨rfl, rfl⟩

theorem Try.bString (b g cells cap : Nat) (l : List Int) (w : World) (h0 : l ≠ []) (hc0 : cap ≠ 0) (hcell : w.cell? ⟨b, 1, none⟩ = some (.slice (some ⟨g, 0, none⟩) l.length cap)) (hsh : w.shape? g = some (5, cells)) (hn : l.length ≤ cells) (h63 : l.length ≤ 9223372036854775807)
    (hcells : ∀ (j : Nat) x, l[j]? = some x → w.cell? ⟨g, j, none⟩ = some (.int .u8 x)) :
    Calls Try.prog 166 #[.pointer (some ⟨b, 0, none⟩)] w fun e w' => e = .returned (.string (Eng.toBytes l)) ∧ w' = w.drew.freeze ⟨g, 0, none⟩ l.length := by
  have c1 : w.drew.cell? ⟨b, 1, none⟩ = some (.slice (some ⟨g, 0, none⟩) l.length cap) := hcell
  have hSD : (Builtin.unsafeSliceData_ #[57] 194 #[.slice (some ⟨g, 0, none⟩) l.length cap]).run Try.prog w.drew = .ok (.pointer (some ⟨g, 0, none⟩)) w.drew :=
    Lib.run_unsafeSliceData_row _ _ _ _ _ _ hc0
  have hUS : (Builtin.unsafeString_ #[194, 3] 9 #[.pointer (some ⟨g, 0, none⟩), .int .i64 l.length]).run Try.prog w.drew = .ok (.string (Eng.toBytes l)) (w.drew.freeze ⟨g, 0, none⟩ l.length) :=
    Eng.run_unsafeStringI w.drew 194 3 9 5 Try.underlying194 (by kernel_rfl) g cells hsh l h0 hn h63 hcells
  have mixed : Try.prog.follows .mixedOrders = true := by kernel_rfl
  go_enter Try.func166, Try.ntmps166
  go_wp2
  go_region_o
  all_goals (go_wp2; go_ret; exact ⟨rfl, rfl⟩)

theorem Try.bStringNil (b : Nat) (w : World) (hcell : w.cell? ⟨b, 1, none⟩ = some (.slice none 0 0)) :
    Calls Try.prog 166 #[.pointer (some ⟨b, 0, none⟩)] w fun e w' => e = .returned (.string .empty) ∧ w' = w.drew := by
  have c1 : w.drew.cell? ⟨b, 1, none⟩ = some (.slice none 0 0) := hcell
  have hSD : (Builtin.unsafeSliceData_ #[57] 194 #[.slice none 0 0]).run Try.prog w.drew = .ok (.pointer none) w.drew :=
    Lib.run_unsafeSliceData_nil _ _ _ _ _
  have hUS : (Builtin.unsafeString_ #[194, 3] 9 #[.pointer none, .int .i64 0]).run Try.prog w.drew = .ok (.string .empty) w.drew := Lib.run_unsafeString_none _ _ _ _ _
  have mixed : Try.prog.follows .mixedOrders = true := by kernel_rfl
  go_enter Try.func166, Try.ntmps166
  go_wp2
  go_region_o
  all_goals (go_wp2; go_ret; exact ⟨rfl, rfl⟩)

theorem Try.frames_call (b o : Nat) (m : Nat) (hm : m ≤ 2) (w : World) (P : Nat → Nat → Nat → World → Prop) (hc : w.cell? ⟨b, o + 8, none⟩ = some (.int .i64 m)) (hcall : Calls Try.prog 147 #[.slice (some ⟨b, o + 6, none⟩) m 2] w.drew fun e w' => ∃ g a cap, e = .returned (.slice (some ⟨g, a, none⟩) m cap) ∧ P g a cap w') : Calls Try.prog 71 #[.pointer (some ⟨b, o, none⟩)] w fun e w' => ∃ g a cap, e = .returned (.slice (some ⟨g, a, none⟩) m cap) ∧ P g a cap w' := by
  have mixed : Try.prog.follows .mixedOrders = true := by kernel_rfl
  have c1 : w.drew.cell? ⟨b, o + 8, none⟩ = some (.int .i64 m) := hc
  have hsl : (Instr.sliceAt 103 (.pointer (some ⟨b, o + 6, none⟩)) none (some (.int .i64 m)) none).run Try.prog w.drew = .ok (.slice (some ⟨b, o + 6, none⟩) m 2) w.drew := by
    unfold Instr.sliceAt
    rw [Sem.run_bind, Eng.run_underlying' Try.underlying103]
    simp only [Result.andThen_ok]
    match m, hm with
    | 0, _ => rfl
    | 1, _ => rfl
    | 2, _ => rfl
  go_enter Try.func71, Try.ntmps71
  go_wp2
  go_region_with (go_at_call 147; refine hcall.mono ?_; rintro e w' ⟨g, a, cap, rfl, hP⟩)
  all_goals (go_wp2; go_ret; exact ⟨_, _, _, rfl, hP⟩)

end Go.Proofs
namespace Go.Sa
open Go Go.Eng Go.Proofs
set_option maxRecDepth 100000
def osp_167 {R : Type} (args : List AV) (H : Hp E) (K : AV → Hp E → Option R) : Option R :=
  match args, H with
  | [.sc (.slc 0 none _), .sc (.str s)], [some ⟨ro, .rows (.str l)⟩] => cond (joinOk l s) (K (.sc (.str (joinB l s))) [some ⟨ro, .rows (.str l)⟩]) none
  | _, _ => none
theorem osp_167_ok : FnOk E 167 osp_167 := by
  intro R args H K r h
  unfold osp_167 at h
  dsimp only at h
  split at h
  · obtain ⟨hok, h⟩ := cond_none_right h
    exact ⟨_, _, h, join_sim ⟨_, Try.func167, by kernel_rfl, by kernel_rfl⟩ Try.strings_Join_none Try.strings_Join (rtStr_map _ _) rfl hok⟩
  · cases h

def osp_169 {R : Type} (args : List AV) (H : Hp E) (K : AV → Hp E → Option R) : Option R :=
  match args, H with
  | [.sc (.str s), .sc (.int .i64 n)], [] => cond (repOk s n) (K (.sc (.str (repB s n))) []) none
  | _, _ => none
theorem osp_169_ok : FnOk E 169 osp_169 := by
  intro R args H K r h
  unfold osp_169 at h
  dsimp only at h
  split at h
  · obtain ⟨hok, h⟩ := cond_none_right h
    exact ⟨_, _, h, rep_sim ⟨_, Try.func169, by kernel_rfl, by kernel_rfl⟩ Try.strings_Repeat hok⟩
  · cases h

def osp_175 {R : Type} (args : List AV) (H : Hp E) (K : AV → Hp E → Option R) : Option R :=
  match args, H with
  | [.sc (.ptr 0 0 0)], some ⟨false, .exp (some t) [c0, c1]⟩ :: rest => cond (Nat.beq t 185) (match c0 with
    | .nilp => K (.tup []) (some ⟨false, .exp (some t) [.ptr 0 0 0, c1]⟩ :: rest)
    | .ptr 0 0 0 => K (.tup []) (some ⟨false, .exp (some t) [.ptr 0 0 0, c1]⟩ :: rest)
    | _ => none) none
  | _, _ => none
theorem osp_175_ok : FnOk E 175 osp_175 := by
  intro R args H K r h
  unfold osp_175 at h
  dsimp only at h
  split at h
  · obtain ⟨ht, h⟩ := cond_none_right h
    have ht := Nat.eq_of_beq_eq_true ht
    subst ht
    split at h
    · exact ⟨_, _, h, ccheck_sim ⟨_, Try.func175, by kernel_rfl, by kernel_rfl⟩ Try.copyCheck_used Try.copyCheck_fresh (.inl rfl)⟩
    · exact ⟨_, _, h, ccheck_sim ⟨_, Try.func175, by kernel_rfl, by kernel_rfl⟩ Try.copyCheck_used Try.copyCheck_fresh (.inr rfl)⟩
    · cases h
  · cases h

def osp_166 {R : Type} (args : List AV) (H : Hp E) (K : AV → Hp E → Option R) : Option R :=
  match args, H with
  | [.sc (.ptr 0 0 0)], [some ⟨false, .exp (some t) [c0, .slc 1 none nl]⟩, some ⟨false, .rows (.u8 l)⟩] => cond (Nat.beq t 185)
    (cond nl (K (.sc (.str ⟨#[]⟩)) [some ⟨false, .exp (some t) [c0, .slc 1 none nl]⟩, some ⟨false, .rows (.u8 l)⟩])
      (cond (Nat.blt 0 l.length && Nat.ble l.length 9223372036854775807) (K (.sc (.str (toBytes l))) [some ⟨false, .exp (some t) [c0, .slc 1 none nl]⟩, some ⟨false, .frz (.u8 l)⟩]) none)) none
  | [.sc (.ptr 0 0 0)], [some ⟨false, .exp (some t) [c0, .slc 1 none nl]⟩, some ⟨false, .frz (.u8 l)⟩] => cond (Nat.beq t 185)
    (cond nl none (cond (Nat.blt 0 l.length && Nat.ble l.length 9223372036854775807) (K (.sc (.str (toBytes l))) [some ⟨false, .exp (some t) [c0, .slc 1 none nl]⟩, some ⟨false, .frz (.u8 l)⟩]) none)) none
  | _, _ => none
theorem osp_166_ok : FnOk E 166 osp_166 := by
  intro R args H K r h
  unfold osp_166 at h
  dsimp only at h
  split at h
  · obtain ⟨ht, h⟩ := cond_none_right h
    have ht := Nat.eq_of_beq_eq_true ht
    subst ht
    rename_i nl l _
    cases nl with
    | true => exact ⟨_, _, h, bstr_sim (E := E) (b := B.u8 l) (l := l) (fr := false) ⟨_, Try.func166, by kernel_rfl, by kernel_rfl⟩ Try.bStringNil Try.bString (rtInt_map _ _ _) rfl rfl rfl (.inl ⟨rfl, rfl⟩)⟩
    | false =>
      obtain ⟨hl, h⟩ := cond_none_right h
      simp only [Bool.and_eq_true] at hl
      exact ⟨_, _, h, bstr_sim (E := E) (b := B.u8 l) (l := l) (fr := false) ⟨_, Try.func166, by kernel_rfl, by kernel_rfl⟩ Try.bStringNil Try.bString (rtInt_map _ _ _) rfl rfl rfl (.inr ⟨rfl, List.length_pos_iff.1 (Nat.le_of_ble_eq_true hl.1), Nat.le_of_ble_eq_true hl.2⟩)⟩
  · obtain ⟨ht, h⟩ := cond_none_right h
    have ht := Nat.eq_of_beq_eq_true ht
    subst ht
    rename_i nl l _
    cases nl with
    | true => cases h
    | false =>
      obtain ⟨hl, h⟩ := cond_none_right h
      simp only [Bool.and_eq_true] at hl
      exact ⟨_, _, h, bstr_sim (E := E) (b := B.u8 l) (l := l) (fr := true) ⟨_, Try.func166, by kernel_rfl, by kernel_rfl⟩ Try.bStringNil Try.bString (rtInt_map _ _ _) rfl rfl rfl (.inr ⟨rfl, List.length_pos_iff.1 (Nat.le_of_ble_eq_true hl.1), Nat.le_of_ble_eq_true hl.2⟩)⟩
  · cases h

theorem clone_frames (r0 r1 : Int) (m : Nat) (hm : m ≤ 2) : Sim E 147 [.sc (.slc 0 none false)] [some ⟨true, .rows (.i64 (seg [r0, r1] 0 m))⟩] (.sc (.slc 1 none false)) [some ⟨true, .rows (.i64 (seg [r0, r1] 0 m))⟩, some ⟨false, .rows (.i64 (seg [r0, r1] 0 m))⟩] := by
  match m, hm with
  | 0, _ =>
    change Sim E 147 _ [some ⟨true, .rows (.i64 [])⟩] _ [some ⟨true, .rows (.i64 [])⟩, some ⟨false, .rows (.i64 [])⟩]
    have h : runFnI (E := E) noFn noIt [] (jn [] [] []) Go.Proofs.Try.f147 [.sc (.slc 0 none false)] [some ⟨true, .rows (.i64 [])⟩] (fun v H => some (v, H)) = some (.sc (.slc 1 none false), [some ⟨true, .rows (.i64 [])⟩, some ⟨false, .rows (.i64 [])⟩]) := by kernel_rfl
    obtain ⟨v, H', e, hs⟩ := fnB_ok (ids := []) (top := []) ok noFn_ok (jn_ok _ _ _) Go.Proofs.Try.func147 (by kernel_rfl) (IT := noIt) (sl := []) (H := [some ⟨true, .rows (.i64 [])⟩]) noIt_ok (by kernel_rfl) rfl h
    cases e
    exact hs
  | 1, _ =>
    change Sim E 147 _ [some ⟨true, .rows (.i64 [r0])⟩] _ [some ⟨true, .rows (.i64 [r0])⟩, some ⟨false, .rows (.i64 [r0])⟩]
    have h : runFnI (E := E) noFn noIt [] (jn [] [] []) Go.Proofs.Try.f147 [.sc (.slc 0 none false)] [some ⟨true, .rows (.i64 [r0])⟩] (fun v H => some (v, H)) = some (.sc (.slc 1 none false), [some ⟨true, .rows (.i64 [r0])⟩, some ⟨false, .rows (.i64 [r0])⟩]) := by kernel_rfl
    obtain ⟨v, H', e, hs⟩ := fnB_ok (ids := []) (top := []) ok noFn_ok (jn_ok _ _ _) Go.Proofs.Try.func147 (by kernel_rfl) (IT := noIt) (sl := []) (H := [some ⟨true, .rows (.i64 [r0])⟩]) noIt_ok (by kernel_rfl) rfl h
    cases e
    exact hs
  | 2, _ =>
    change Sim E 147 _ [some ⟨true, .rows (.i64 [r0, r1])⟩] _ [some ⟨true, .rows (.i64 [r0, r1])⟩, some ⟨false, .rows (.i64 [r0, r1])⟩]
    have h : runFnI (E := E) noFn noIt [] (jn [] [] []) Go.Proofs.Try.f147 [.sc (.slc 0 none false)] [some ⟨true, .rows (.i64 [r0, r1])⟩] (fun v H => some (v, H)) = some (.sc (.slc 1 none false), [some ⟨true, .rows (.i64 [r0, r1])⟩, some ⟨false, .rows (.i64 [r0, r1])⟩]) := by kernel_rfl
    obtain ⟨v, H', e, hs⟩ := fnB_ok (ids := []) (top := []) ok noFn_ok (jn_ok _ _ _) Go.Proofs.Try.func147 (by kernel_rfl) (IT := noIt) (sl := []) (H := [some ⟨true, .rows (.i64 [r0, r1])⟩]) noIt_ok (by kernel_rfl) rfl h
    cases e
    exact hs

def osp_71 {R : Type} (args : List AV) (H : Hp E) (K : AV → Hp E → Option R) : Option R :=
  match args, H with
  | [.sc (.ptr 0 0 0)], [some ⟨ro, .exp t [c0, c1, c2, c3, c4, c5, .int .i64 r0, .int .i64 r1, .int .i64 n]⟩] => cond (decide (0 ≤ n) && decide (n ≤ 2)) (K (.sc (.slc 1 none false)) [some ⟨ro, .exp t [c0, c1, c2, c3, c4, c5, .int .i64 r0, .int .i64 r1, .int .i64 n]⟩, some ⟨false, .rows (.i64 (seg [r0, r1] 0 n.toNat))⟩]) none
  | _, _ => none
theorem osp_71_ok : FnOk E 71 osp_71 := by
  intro R args H K r h
  unfold osp_71 at h
  dsimp only at h
  split at h
  · rename_i ro t c0 c1 c2 c3 c4 c5 r0 r1 n
    obtain ⟨hn, h⟩ := cond_none_right h
    simp only [Bool.and_eq_true, decide_eq_true_eq] at hn
    obtain ⟨m, rfl⟩ := Int.eq_ofNat_of_zero_le hn.1
    have hm : m ≤ 2 := by omega
    refine ⟨_, _, h, frames_sim (E := E) (b := .i64 (seg [r0, r1] 0 (m : Int).toNat)) (m := m) ok ⟨_, Try.func71, by kernel_rfl, by kernel_rfl⟩ (fun bk o w P hc hcall => Try.frames_call bk o m hm w P hc hcall) (clone_frames r0 r1 m hm) (fun j s hj => ?_) ?_ rfl rfl hm⟩
    · match m, hm, j, hj with
      | 1, _, 0, hj => exact hj
      | 2, _, 0, hj => exact hj
      | 2, _, 1, hj => exact hj
    · match m, hm with
      | 0, _ => rfl
      | 1, _ => rfl
      | 2, _ => rfl
  · cases h

end Go.Sa
