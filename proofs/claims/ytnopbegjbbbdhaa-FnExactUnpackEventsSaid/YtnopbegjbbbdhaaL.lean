/- The law FnExactUnpackEvents returns true for every argument, and its arguments read as they did. No conditions. -/
import Derived.Test.YtnopbegjbbbdhaaP0
import Derived.Test.YtnopbegjbbbdhaaRows
import Derived.WalkKit
import Derived.ProofKit
import Derived.ShutString
import Derived.ChangeOld
import Derived.Below
import Derived.Carry
set_option linter.all false
namespace Go.Sa.FnExactUnpackEvents
open Go Go.Eng Go.Proofs Go.Sa Go.Proofs.Ytnopbegjbbbdhaa
open Go.ChangeShapes Go.WideShapes Go.ChangeAt Go.RowKit

theorem own : ownKnob Try.prog.godebug = none := by kernel_rfl
theorem laidOut : laidOutB Try.prog = true := by kernel_rfl

theorem kt0 : ck2Ty Try.prog 6 9 = some [(.p .str, 9)] := by kernel_rfl
theorem sim (N : Nat) (hN : 2 ^ 40 < N) (v0 : ByteArray)  (w0 : v0.size ≤ maxLen) : Sim E 10 [.sc (.str v0)] [] (.sc (.bool true)) [] :=
  FnOk.sim (o_laws_FnExactUnpackEvents_ok N) (by
    show g_laws_FnExactUnpackEvents N v0 (fun b1 => some (AV.sc (SV.bool b1), ([] : Hp E))) = _
    exact law_UnpackEvents N hN _)

set_option maxRecDepth 100000 in
theorem walk (W : World) {b0 : Nat} (a0 : Value) {H : Type} {enc : TypeId × Value → H} {d0 : DataW H} {p0 : List MemPlace} (h0a : DataW.Trod enc Try.prog W 0 (fun _ => true) true 9 a0 d0 p0)
    (c0 : Value.okWide Try.prog W .any b0 9 a0) :
    Calls Try.prog 10 #[a0] W fun e w' => e = .returned (.bool true) ∧ Below W.heap.size W w' := by
  have k0 := open_cell (n := 6) (k := .p .str) (t := 9) kt0 Try.underlying9 rfl h0a c0
  obtain ⟨v0, _, ev0, w0, kv0⟩ := c2_str k0
  cases ev0
  have hs := sim (2 ^ 41) (by decide) v0 w0
  have hra : All2 (RA []) [.sc (.str v0)] [Value.string v0] := ⟨rfl, trivial⟩
  have hrh : RH (E := E) [] [] W := RH.ofRo (E := E) (bs := ([] : List B)) trivial
  have hro : ∀ i he, nth ([] : Hp E) i = some (some he) → he.ro = true := fun i he h => ro_map (E := E) (bs := ([] : List B)) h
  exact hs.law hro hra hrh

set_option maxRecDepth 100000 in
theorem lifted (os : Os) (started : os.Started) (H : Type) (enc : TypeId × Value → H) :
    ReturnsInHanded {} Try.checked os 10 .any (Rows.fnExactUnpackEventsSpec.pre6 enc Try.prog Try.f10 Rows.fnExactUnpackEventsRow.domain false) (Rows.fnExactUnpackEventsSpec.post enc Try.prog Try.f10 false true false false) := by
  refine returnsInHanded_of_change_sized (C := Try.checked) own started (by kernel_rfl) Try.func10
    (ChangeSpec.witness6 (enc := enc) (C := Try.checked) false ⟨#[], #[.string ByteArray.empty], []⟩ 8 (by kernel_rfl) (by kernel_rfl) (by kernel_rfl) (by kernel_rfl)) ?_
  intro W base args ds gs before hval0 hW hcnd hsz0 _
  have hval : ∀ (j : Nat) t v, Try.f10.params[j]? = some t → args[j]? = some v → Value.okWide Try.prog W .any base t v := hval0
  have hW' := hW
  obtain ⟨p, q, hA0, hV, rfl, hfz, hnd⟩ := hW
  have hA : DataW.TrodAll enc Try.prog W 0 (fun _ => true) true Try.f10.params.toList args.toList ds p := hA0
  rw [Try.params10] at hA hval
  obtain ⟨v0, vs0, d0, ds0, p0, q0, hargs, rfl, rfl, h0, r0⟩ := trodAll_cons hA
  obtain ⟨rfl, rfl, rfl⟩ := trodAll_nil r0
  obtain rfl : args = #[v0] := by cases args; simp_all
  obtain ⟨rfl, rfl⟩ := trodVars_none hV
  have lt0 : ∀ x ∈ p0, x.block < W.heap.size := by obtain ⟨m, hm⟩ := h0; exact DataW.trod_lt m _ _ _ hm
  have b0 : Value.okWide Try.prog W .any base 9 v0 := hval 0 9 v0 rfl rfl
  clear hA0 hval0 hsz0
  refine (walk W v0 h0 b0).mono fun e W' ⟨he, bel⟩ => ?_
  subst he
  exact ⟨_, rfl, _, _, _, [], _, [], hW', trodAll_mk1 (shut_bool Try.underlying4 _), (trodAll_cons_mk (Below.trod laidOut (by kernel_rfl) (of_decide_eq_true (by kernel_rfl)) h0 bel lt0) trodAll_mk0), rfl, bel.frame _, fun h => by cases h⟩

theorem over : Rows.fnExactUnpackEventsRow.holds Try.pinned (OpenSpec.ofChange Rows.fnExactUnpackEventsSpec) :=
  OpenClaim.holds_of_wide 10 Try.f10 rfl rfl rfl rfl rfl rfl rfl ⟨rfl, rfl, rfl, rfl, rfl⟩ rfl rfl rfl rfl rfl (by kernel_rfl) Try.func10 (by kernel_rfl)
    (of_decide_eq_true (by kernel_rfl)) (by unfold Func.isWrapper; first | (rw [if_pos (by decide +kernel)]; kernel_rfl) | (rw [if_neg (by decide +kernel)]; exact ⟨rfl, rfl⟩))
    (fun os started H enc _ => lifted os started H enc)
end Go.Sa.FnExactUnpackEvents
namespace Go.Proofs.Ytnopbegjbbbdhaa
theorem fnExactUnpackEvents_holds : Rows.FnExactUnpackEventsSaid := Go.Sa.FnExactUnpackEvents.over
#print axioms fnExactUnpackEvents_holds
end Go.Proofs.Ytnopbegjbbbdhaa
