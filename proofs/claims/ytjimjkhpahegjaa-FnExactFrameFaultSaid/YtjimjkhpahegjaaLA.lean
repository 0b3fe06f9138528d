/- The law FnExactFrameFault returns true for every argument, and its argument reads as it did. No conditions. -/
import Derived.Test.YtjimjkhpahegjaaTA
import Derived.Test.YtjimjkhpahegjaaRows
import Derived.WalkKit
import Derived.ProofKit
import Derived.ShutString
import Derived.ChangeOld
import Derived.Below
import Derived.Carry
namespace Go.Sa.FrameFault
open Go Go.Eng Go.Proofs Go.Sa Go.Proofs.Ytjimjkhpahegjaa
open Go.ChangeShapes Go.WideShapes Go.ChangeAt Go.RowKit

theorem own : ownKnob Try.prog.godebug = none := by kernel_rfl
theorem laidOut : laidOutB Try.prog = true := by kernel_rfl

theorem walk (W : World) (cs : List Value) {H : Type} {enc : TypeId × Value → H} {d : DataW H} {p : List MemPlace} (h : DataW.Trod enc Try.prog W 0 (fun _ => true) true 23 (.agg cs.toArray) d p) :
    Calls Try.prog 3 #[.agg cs.toArray] W fun e w' => e = .returned (.bool true) ∧ Below W.heap.size W w' := by
  obtain ⟨fuel, h⟩ := h
  have hk := trod_ck 2 23 [.int .i64, .int .i64, .int .i64, .str] (by kernel_rfl) fuel _ _ h
  replace hk : All2 ckOk [.int .i64, .int .i64, .int .i64, .str] cs := hk
  obtain ⟨a, l1, rfl, _, hk⟩ := ck_int hk
  obtain ⟨b, l2, rfl, _, hk⟩ := ck_int hk
  obtain ⟨c, l3, rfl, _, hk⟩ := ck_int hk
  obtain ⟨s, l4, rfl, _, hk⟩ := ck_str hk
  obtain rfl := ck_nil hk
  exact (law3 a b c s).law (fun i he h => by cases h) (φ := []) (av := [.agg [Value.int .i64 a, .int .i64 b, .int .i64 c, .string s].toArray]) ⟨⟨_, rfl, rfl, rfl, rfl, rfl, trivial⟩, trivial⟩ RH.nil

set_option maxRecDepth 100000 in
theorem lifted (os : Os) (started : os.Started) (H : Type) (enc : TypeId × Value → H) :
    ReturnsInHanded {} Try.checked os 3 .any (Rows.fnExactFrameFaultSpec.pre6 enc Try.prog Try.f3 Rows.fnExactFrameFaultRow.domain false) (Rows.fnExactFrameFaultSpec.post enc Try.prog Try.f3 false true false false) := by
  refine returnsInHanded_of_change_sized (C := Try.checked) own started (by kernel_rfl) Try.func3
    (ChangeSpec.witness6 (enc := enc) (C := Try.checked) false ⟨#[], #[.agg #[.int .i64 0, .int .i64 0, .int .i64 0, .string ByteArray.empty]], []⟩ 8 (by kernel_rfl) (by kernel_rfl) (by kernel_rfl) (by kernel_rfl)) ?_
  intro W base args ds gs before hval0 hW hcnd hsz0 _
  have hval : ∀ (j : Nat) t v, Try.f3.params[j]? = some t → args[j]? = some v → Value.okWide Try.prog W .any base t v := hval0
  have hW' := hW
  obtain ⟨p, q, hA0, hV, rfl, hfz, hnd⟩ := hW
  have hA : DataW.TrodAll enc Try.prog W 0 (fun _ => true) true Try.f3.params.toList args.toList ds p := hA0
  rw [Try.params3] at hA hval
  obtain ⟨v0, vs0, d0, ds0, p0, q0, hargs, rfl, rfl, h0, r0⟩ := trodAll_cons hA
  obtain ⟨rfl, rfl, rfl⟩ := trodAll_nil r0
  obtain rfl : args = #[v0] := by cases args; simp_all
  obtain ⟨rfl, rfl⟩ := trodVars_none hV
  have k0 := h0
  have lt0 : ∀ x ∈ p0, x.block < W.heap.size := by obtain ⟨m, hm⟩ := k0; exact DataW.trod_lt m _ _ _ hm
  obtain ⟨c0, rfl⟩ := okWide_agg Try.underlying23 (hval 0 23 v0 rfl rfl)
  clear hA0 hval0 hsz0
  refine (walk W c0 k0).mono fun e W' ⟨he, bel⟩ => ?_
  subst he
  exact ⟨_, rfl, _, _, _, [], _, [], hW', trodAll_mk1 (shut_bool Try.underlying4 _), (trodAll_cons_mk (Below.trod laidOut (by kernel_rfl) (of_decide_eq_true (by kernel_rfl)) k0 bel lt0) trodAll_mk0), rfl, bel.frame _, fun h => by cases h⟩

theorem over : Rows.fnExactFrameFaultRow.holds Try.pinned (OpenSpec.ofChange Rows.fnExactFrameFaultSpec) :=
  OpenClaim.holds_of_wide 3 Try.f3 rfl rfl rfl rfl rfl rfl rfl ⟨rfl, rfl, rfl, rfl, rfl⟩ rfl rfl rfl rfl rfl (by kernel_rfl) Try.func3 (by kernel_rfl)
    (of_decide_eq_true (by kernel_rfl)) (by unfold Func.isWrapper; first | (rw [if_pos (by decide +kernel)]; kernel_rfl) | (rw [if_neg (by decide +kernel)]; exact ⟨rfl, rfl⟩))
    (fun os started H enc _ => lifted os started H enc)
end Go.Sa.FrameFault
namespace Go.Proofs.Ytjimjkhpahegjaa
theorem fnExactFrameFault_holds : Rows.FnExactFrameFaultSaid := Go.Sa.FrameFault.over
#print axioms fnExactFrameFault_holds
end Go.Proofs.Ytjimjkhpahegjaa
