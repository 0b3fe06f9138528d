import Derived.Test.YtflmjaehnbnjnaaEnv
import Derived.Test.YtflmjaehnbnjnaaSpc
import Derived.Deep.RegionWith
set_option linter.all false
namespace Go.Shelf
end Go.Shelf
namespace Go.Proofs
open Go.Shelf Go.RowKit
set_option maxRecDepth 100000
set_option maxHeartbeats 4000000
theorem Try.frames_call (b o : Nat) (m : Nat) (hm : m ≤ 2) (w : World) (P : Nat → Nat → Nat → World → Prop) (hc : w.cell? ⟨b, o + 8, none⟩ = some (.int .i64 m)) (hcall : Calls Try.prog 58 #[.slice (some ⟨b, o + 6, none⟩) m 2] w.drew fun e w' => ∃ g a cap, e = .returned (.slice (some ⟨g, a, none⟩) m cap) ∧ P g a cap w') : Calls Try.prog 33 #[.pointer (some ⟨b, o, none⟩)] w fun e w' => ∃ g a cap, e = .returned (.slice (some ⟨g, a, none⟩) m cap) ∧ P g a cap w' := by
  have mixed : Try.prog.follows .mixedOrders = true := by kernel_rfl
  have c1 : w.drew.cell? ⟨b, o + 8, none⟩ = some (.int .i64 m) := hc
  have hsl : (Instr.sliceAt 61 (.pointer (some ⟨b, o + 6, none⟩)) none (some (.int .i64 m)) none).run Try.prog w.drew = .ok (.slice (some ⟨b, o + 6, none⟩) m 2) w.drew := by
    unfold Instr.sliceAt
    rw [Sem.run_bind, Eng.run_underlying' Try.underlying61]
    simp only [Result.andThen_ok]
    match m, hm with
    | 0, _ => rfl
    | 1, _ => rfl
    | 2, _ => rfl
  go_enter Try.func33, Try.ntmps33
  go_wp2
  go_region_with (go_at_call 58; refine hcall.mono ?_; rintro e w' ⟨g, a, cap, rfl, hP⟩)
  all_goals (go_wp2; go_ret; exact ⟨_, _, _, rfl, hP⟩)

end Go.Proofs
namespace Go.Sa
open Go Go.Eng Go.Proofs
set_option maxRecDepth 100000
theorem clone_frames (r0 r1 : Int) (m : Nat) (hm : m ≤ 2) : Sim E 58 [.sc (.slc 0 none false)] [some ⟨true, .rows (.i64 (seg [r0, r1] 0 m))⟩] (.sc (.slc 1 none false)) [some ⟨true, .rows (.i64 (seg [r0, r1] 0 m))⟩, some ⟨false, .rows (.i64 (seg [r0, r1] 0 m))⟩] := by
  match m, hm with
  | 0, _ =>
    change Sim E 58 _ [some ⟨true, .rows (.i64 [])⟩] _ [some ⟨true, .rows (.i64 [])⟩, some ⟨false, .rows (.i64 [])⟩]
    have h : runFnI (E := E) noFn noIt [] (jn [] [] []) Go.Proofs.Try.f58 [.sc (.slc 0 none false)] [some ⟨true, .rows (.i64 [])⟩] (fun v H => some (v, H)) = some (.sc (.slc 1 none false), [some ⟨true, .rows (.i64 [])⟩, some ⟨false, .rows (.i64 [])⟩]) := by kernel_rfl
    obtain ⟨v, H', e, hs⟩ := fnB_ok (ids := []) (top := []) ok noFn_ok (jn_ok _ _ _) Go.Proofs.Try.func58 (by kernel_rfl) (IT := noIt) (sl := []) (H := [some ⟨true, .rows (.i64 [])⟩]) noIt_ok (by kernel_rfl) rfl h
    cases e
    exact hs
  | 1, _ =>
    change Sim E 58 _ [some ⟨true, .rows (.i64 [r0])⟩] _ [some ⟨true, .rows (.i64 [r0])⟩, some ⟨false, .rows (.i64 [r0])⟩]
    have h : runFnI (E := E) noFn noIt [] (jn [] [] []) Go.Proofs.Try.f58 [.sc (.slc 0 none false)] [some ⟨true, .rows (.i64 [r0])⟩] (fun v H => some (v, H)) = some (.sc (.slc 1 none false), [some ⟨true, .rows (.i64 [r0])⟩, some ⟨false, .rows (.i64 [r0])⟩]) := by kernel_rfl
    obtain ⟨v, H', e, hs⟩ := fnB_ok (ids := []) (top := []) ok noFn_ok (jn_ok _ _ _) Go.Proofs.Try.func58 (by kernel_rfl) (IT := noIt) (sl := []) (H := [some ⟨true, .rows (.i64 [r0])⟩]) noIt_ok (by kernel_rfl) rfl h
    cases e
    exact hs
  | 2, _ =>
    change Sim E 58 _ [some ⟨true, .rows (.i64 [r0, r1])⟩] _ [some ⟨true, .rows (.i64 [r0, r1])⟩, some ⟨false, .rows (.i64 [r0, r1])⟩]
    have h : runFnI (E := E) noFn noIt [] (jn [] [] []) Go.Proofs.Try.f58 [.sc (.slc 0 none false)] [some ⟨true, .rows (.i64 [r0, r1])⟩] (fun v H => some (v, H)) = some (.sc (.slc 1 none false), [some ⟨true, .rows (.i64 [r0, r1])⟩, some ⟨false, .rows (.i64 [r0, r1])⟩]) := by kernel_rfl
    obtain ⟨v, H', e, hs⟩ := fnB_ok (ids := []) (top := []) ok noFn_ok (jn_ok _ _ _) Go.Proofs.Try.func58 (by kernel_rfl) (IT := noIt) (sl := []) (H := [some ⟨true, .rows (.i64 [r0, r1])⟩]) noIt_ok (by kernel_rfl) rfl h
    cases e
    exact hs

def osp_33 {R : Type} (args : List AV) (H : Hp E) (K : AV → Hp E → Option R) : Option R :=
  match args, H with
  | [.sc (.ptr 0 0 0)], [some ⟨ro, .exp t [c0, c1, c2, c3, c4, c5, .int .i64 r0, .int .i64 r1, .int .i64 n]⟩] => cond (decide (0 ≤ n) && decide (n ≤ 2)) (K (.sc (.slc 1 none false)) [some ⟨ro, .exp t [c0, c1, c2, c3, c4, c5, .int .i64 r0, .int .i64 r1, .int .i64 n]⟩, some ⟨false, .rows (.i64 (seg [r0, r1] 0 n.toNat))⟩]) none
  | _, _ => none
theorem osp_33_ok : FnOk E 33 osp_33 := by
  intro R args H K r h
  unfold osp_33 at h
  dsimp only at h
  split at h
  · rename_i ro t c0 c1 c2 c3 c4 c5 r0 r1 n
    obtain ⟨hn, h⟩ := cond_none_right h
    simp only [Bool.and_eq_true, decide_eq_true_eq] at hn
    obtain ⟨m, rfl⟩ := Int.eq_ofNat_of_zero_le hn.1
    have hm : m ≤ 2 := by omega
    refine ⟨_, _, h, frames_sim (E := E) (b := .i64 (seg [r0, r1] 0 (m : Int).toNat)) (m := m) ok ⟨_, Try.func33, by kernel_rfl, by kernel_rfl⟩ (fun bk o w P hc hcall => Try.frames_call bk o m hm w P hc hcall) (clone_frames r0 r1 m hm) (fun j s hj => ?_) ?_ rfl rfl hm⟩
    · match m, hm, j, hj with
      | 1, _, 0, hj => exact hj
      | 2, _, 0, hj => exact hj
      | 2, _, 1, hj => exact hj
    · match m, hm with
      | 0, _ => rfl
      | 1, _ => rfl
      | 2, _ => rfl
  · cases h

end Go.Sa
