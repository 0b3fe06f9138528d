import Derived.Test.YtaffhdhamfilpaaEnv
import Derived.Test.YtaffhdhamfilpaaSpc
import Derived.Test.YtaffhdhamfilpaaShelf
import Derived.Shelf.Strings.BuilderK
set_option linter.all false
namespace Go.Proofs
open Go.Shelf Go.RowKit
set_option maxRecDepth 100000
set_option maxHeartbeats 4000000
theorem Try.copyCheck_used (b : Nat) (w : World) (h0 : w.cell? ⟨b, 0, none⟩ = some (.pointer (some ⟨b, 0, none⟩))) :
    Calls Try.prog 80 #[.pointer (some ⟨b, 0, none⟩)] w fun e w' => e = .returned (.tuple #[]) ∧ w' = w := by
  obtain ⟨j, hj⟩ : ∃ j, Try.prog.info? 69 = some j := ⟨Try.t69, by kernel_rfl⟩
  go_enter Try.func80, Try.ntmps80
  go_wp2
  rw [Lib.run_neq_ptr_same w _ Try.underlying67 hj]
  go_wp2
  go_end0
  exact ⟨rfl, rfl⟩

theorem Try.copyCheck_fresh (b : Nat) (w : World) (h0 : w.cell? ⟨b, 0, none⟩ = some (.pointer none)) (hsh : w.shape? b = some (69, 2)) (hfz : w.frozen? ⟨b, 0, none⟩ = false) :
    Calls Try.prog 80 #[.pointer (some ⟨b, 0, none⟩)] w fun e w' => e = .returned (.tuple #[]) ∧ w' = w.setCell ⟨b, 0, none⟩ (.pointer (some ⟨b, 0, none⟩)) := by
  obtain ⟨j, hj, hjs⟩ : ∃ j, Try.prog.info? 69 = some j ∧ j.size ≠ 0 := ⟨Try.t69, by kernel_rfl, by decide⟩
  have hlies : liesAt Try.prog Try.prog.depth 69 (2 / Try.prog.cellsOf 69) 0 69 1 = true := by kernel_rfl
  go_enter Try.func80, Try.ntmps80
  go_wp2
  rw [Lib.run_to_unsafe w ⟨b, 0, none⟩ Try.underlying67 Try.underlying132 hj hjs hsh (Nat.zero_lt_succ 1)]
  simp only [Result.andThen]
  rw [Oper.upon_value]
  go_wp2
  rw [run_callFunc_extern Try.func107 (by kernel_rfl) (by kernel_rfl) (by kernel_rfl) (e := Extern.AbiNoEscape.same) (by kernel_rfl)]
  rw [Lib.run_noEscape]
  simp only [Result.andThen]
  rw [Oper.upon_value]
  go_wp2
  rw [Lib.run_from_unsafe w ⟨b, 0, none⟩ Try.underlying132 Try.underlying67 hj hsh hlies]
  simp only [Result.andThen]
  rw [Oper.upon_value]
  go_wp2
  go_end0
  exact ⟨rfl, rfl⟩

theorem Try.bString (b g cells cap : Nat) (l : List Int) (w : World) (h0 : l ≠ []) (hc0 : cap ≠ 0) (hcell : w.cell? ⟨b, 1, none⟩ = some (.slice (some ⟨g, 0, none⟩) l.length cap)) (hsh : w.shape? g = some (5, cells)) (hn : l.length ≤ cells) (h63 : l.length ≤ 9223372036854775807)
    (hcells : ∀ (j : Nat) x, l[j]? = some x → w.cell? ⟨g, j, none⟩ = some (.int .u8 x)) :
    Calls Try.prog 43 #[.pointer (some ⟨b, 0, none⟩)] w fun e w' => e = .returned (.string (Eng.toBytes l)) ∧ w' = w.drew.freeze ⟨g, 0, none⟩ l.length := by
  have c1 : w.drew.cell? ⟨b, 1, none⟩ = some (.slice (some ⟨g, 0, none⟩) l.length cap) := hcell
  have hSD : (Builtin.unsafeSliceData_ #[60] 111 #[.slice (some ⟨g, 0, none⟩) l.length cap]).run Try.prog w.drew = .ok (.pointer (some ⟨g, 0, none⟩)) w.drew :=
    Lib.run_unsafeSliceData_row _ _ _ _ _ _ hc0
  have hUS : (Builtin.unsafeString_ #[111, 3] 9 #[.pointer (some ⟨g, 0, none⟩), .int .i64 l.length]).run Try.prog w.drew = .ok (.string (Eng.toBytes l)) (w.drew.freeze ⟨g, 0, none⟩ l.length) :=
    Eng.run_unsafeStringI w.drew 111 3 9 5 Try.underlying111 (by kernel_rfl) g cells hsh l h0 hn h63 hcells
  have mixed : Try.prog.follows .mixedOrders = true := by kernel_rfl
  go_enter Try.func43, Try.ntmps43
  go_wp2
  go_region_o
  all_goals (go_wp2; go_ret; exact ⟨rfl, rfl⟩)

theorem Try.bStringNil (b : Nat) (w : World) (hcell : w.cell? ⟨b, 1, none⟩ = some (.slice none 0 0)) :
    Calls Try.prog 43 #[.pointer (some ⟨b, 0, none⟩)] w fun e w' => e = .returned (.string .empty) ∧ w' = w.drew := by
  have c1 : w.drew.cell? ⟨b, 1, none⟩ = some (.slice none 0 0) := hcell
  have hSD : (Builtin.unsafeSliceData_ #[60] 111 #[.slice none 0 0]).run Try.prog w.drew = .ok (.pointer none) w.drew :=
    Lib.run_unsafeSliceData_nil _ _ _ _ _
  have hUS : (Builtin.unsafeString_ #[111, 3] 9 #[.pointer none, .int .i64 0]).run Try.prog w.drew = .ok (.string .empty) w.drew := Lib.run_unsafeString_none _ _ _ _ _
  have mixed : Try.prog.follows .mixedOrders = true := by kernel_rfl
  go_enter Try.func43, Try.ntmps43
  go_wp2
  go_region_o
  all_goals (go_wp2; go_ret; exact ⟨rfl, rfl⟩)

end Go.Proofs
namespace Go.Sa
open Go Go.Eng Go.Proofs
set_option maxRecDepth 100000
def osp_83 {R : Type} (args : List AV) (H : Hp E) (K : AV → Hp E → Option R) : Option R :=
  match args, H with
  | [.sc (.slc 0 none _), .sc (.str s)], [some ⟨ro, .rows (.str l)⟩] => cond (joinOk l s) (K (.sc (.str (joinB l s))) [some ⟨ro, .rows (.str l)⟩]) none
  | _, _ => none
theorem osp_83_ok : FnOk E 83 osp_83 := by
  intro R args H K r h
  unfold osp_83 at h
  dsimp only at h
  split at h
  · obtain ⟨hok, h⟩ := cond_none_right h
    exact ⟨_, _, h, join_sim ⟨_, Try.func83, by kernel_rfl, by kernel_rfl⟩ Try.strings_Join_none Try.strings_Join (rtStr_map _ _) rfl hok⟩
  · cases h

def osp_94 {R : Type} (args : List AV) (H : Hp E) (K : AV → Hp E → Option R) : Option R :=
  match args, H with
  | [.sc (.str s), .sc (.int .i64 n)], [] => cond (repOk s n) (K (.sc (.str (repB s n))) []) none
  | _, _ => none
theorem osp_94_ok : FnOk E 94 osp_94 := by
  intro R args H K r h
  unfold osp_94 at h
  dsimp only at h
  split at h
  · obtain ⟨hok, h⟩ := cond_none_right h
    exact ⟨_, _, h, rep_sim ⟨_, Try.func94, by kernel_rfl, by kernel_rfl⟩ Try.strings_Repeat hok⟩
  · cases h

def osp_80 {R : Type} (args : List AV) (H : Hp E) (K : AV → Hp E → Option R) : Option R :=
  match args, H with
  | [.sc (.ptr 0 0 0)], some ⟨false, .exp (some t) [c0, c1]⟩ :: rest => cond (Nat.beq t 69) (match c0 with
    | .nilp => K (.tup []) (some ⟨false, .exp (some t) [.ptr 0 0 0, c1]⟩ :: rest)
    | .ptr 0 0 0 => K (.tup []) (some ⟨false, .exp (some t) [.ptr 0 0 0, c1]⟩ :: rest)
    | _ => none) none
  | _, _ => none
theorem osp_80_ok : FnOk E 80 osp_80 := by
  intro R args H K r h
  unfold osp_80 at h
  dsimp only at h
  split at h
  · obtain ⟨ht, h⟩ := cond_none_right h
    have ht := Nat.eq_of_beq_eq_true ht
    subst ht
    split at h
    · exact ⟨_, _, h, ccheck_sim ⟨_, Try.func80, by kernel_rfl, by kernel_rfl⟩ Try.copyCheck_used Try.copyCheck_fresh (.inl rfl)⟩
    · exact ⟨_, _, h, ccheck_sim ⟨_, Try.func80, by kernel_rfl, by kernel_rfl⟩ Try.copyCheck_used Try.copyCheck_fresh (.inr rfl)⟩
    · cases h
  · cases h

def osp_43 {R : Type} (args : List AV) (H : Hp E) (K : AV → Hp E → Option R) : Option R :=
  match args, H with
  | [.sc (.ptr 0 0 0)], [some ⟨false, .exp (some t) [c0, .slc 1 none nl]⟩, some ⟨false, .rows (.u8 l)⟩] => cond (Nat.beq t 69)
    (cond nl (K (.sc (.str ⟨#[]⟩)) [some ⟨false, .exp (some t) [c0, .slc 1 none nl]⟩, some ⟨false, .rows (.u8 l)⟩])
      (cond (Nat.blt 0 l.length && Nat.ble l.length 9223372036854775807) (K (.sc (.str (toBytes l))) [some ⟨false, .exp (some t) [c0, .slc 1 none nl]⟩, some ⟨false, .frz (.u8 l)⟩]) none)) none
  | [.sc (.ptr 0 0 0)], [some ⟨false, .exp (some t) [c0, .slc 1 none nl]⟩, some ⟨false, .frz (.u8 l)⟩] => cond (Nat.beq t 69)
    (cond nl none (cond (Nat.blt 0 l.length && Nat.ble l.length 9223372036854775807) (K (.sc (.str (toBytes l))) [some ⟨false, .exp (some t) [c0, .slc 1 none nl]⟩, some ⟨false, .frz (.u8 l)⟩]) none)) none
  | _, _ => none
theorem osp_43_ok : FnOk E 43 osp_43 := by
  intro R args H K r h
  unfold osp_43 at h
  dsimp only at h
  split at h
  · obtain ⟨ht, h⟩ := cond_none_right h
    have ht := Nat.eq_of_beq_eq_true ht
    subst ht
    rename_i nl l _
    cases nl with
    | true => exact ⟨_, _, h, bstr_sim (E := E) (b := B.u8 l) (l := l) (fr := false) ⟨_, Try.func43, by kernel_rfl, by kernel_rfl⟩ Try.bStringNil Try.bString (rtInt_map _ _ _) rfl rfl rfl (.inl ⟨rfl, rfl⟩)⟩
    | false =>
      obtain ⟨hl, h⟩ := cond_none_right h
      simp only [Bool.and_eq_true] at hl
      exact ⟨_, _, h, bstr_sim (E := E) (b := B.u8 l) (l := l) (fr := false) ⟨_, Try.func43, by kernel_rfl, by kernel_rfl⟩ Try.bStringNil Try.bString (rtInt_map _ _ _) rfl rfl rfl (.inr ⟨rfl, List.length_pos_iff.1 (Nat.le_of_ble_eq_true hl.1), Nat.le_of_ble_eq_true hl.2⟩)⟩
  · obtain ⟨ht, h⟩ := cond_none_right h
    have ht := Nat.eq_of_beq_eq_true ht
    subst ht
    rename_i nl l _
    cases nl with
    | true => cases h
    | false =>
      obtain ⟨hl, h⟩ := cond_none_right h
      simp only [Bool.and_eq_true] at hl
      exact ⟨_, _, h, bstr_sim (E := E) (b := B.u8 l) (l := l) (fr := true) ⟨_, Try.func43, by kernel_rfl, by kernel_rfl⟩ Try.bStringNil Try.bString (rtInt_map _ _ _) rfl rfl rfl (.inr ⟨rfl, List.length_pos_iff.1 (Nat.le_of_ble_eq_true hl.1), Nat.le_of_ble_eq_true hl.2⟩)⟩
  · cases h

end Go.Sa
