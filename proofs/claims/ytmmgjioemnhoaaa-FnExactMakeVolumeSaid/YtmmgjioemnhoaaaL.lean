/- The law FnExactMakeVolume returns true for every argument, and its arguments read as they did. No conditions. -/
import Derived.Test.YtmmgjioemnhoaaaP0
import Derived.Test.YtmmgjioemnhoaaaRows
import Derived.WalkKit
import Derived.ProofKit
import Derived.ShutString
import Derived.ChangeOld
import Derived.Below
import Derived.Carry
set_option linter.all false
namespace Go.Sa.FnExactMakeVolume
open Go Go.Eng Go.Proofs Go.Sa Go.Proofs.Ytmmgjioemnhoaaa
open Go.ChangeShapes Go.WideShapes Go.ChangeAt Go.RowKit

theorem own : ownKnob Try.prog.godebug = none := by kernel_rfl
theorem laidOut : laidOutB Try.prog = true := by kernel_rfl

theorem kt0 : ck2Ty Try.prog 6 9 = some [(.p .str, 9)] := by kernel_rfl
theorem kt1 : ck2Ty Try.prog 6 9 = some [(.p .str, 9)] := by kernel_rfl
theorem kt2 : ck2Ty Try.prog 6 2 = some [(.p (.int .i64), 2)] := by kernel_rfl
theorem sim (N : Nat) (hN : 2 ^ 40 < N) (v0 : ByteArray) (v1 : ByteArray) (v2 : Int)  (w0 : v0.size ≤ maxLen) (w1 : v1.size ≤ maxLen) (w2 : (Lit.int .i64 v2).wf = true) : Sim E 6 [.sc (.str v0), .sc (.str v1), .sc (.int .i64 v2)] [] (.sc (.bool true)) [] :=
  FnOk.sim (o_laws_FnExactMakeVolume_ok N) (by
    show g_laws_FnExactMakeVolume N v0 v1 v2 (fun b1 => some (AV.sc (SV.bool b1), ([] : Hp E))) = _
    exact law_MakeVolume N hN _)

set_option maxRecDepth 100000 in
theorem walk (W : World) {b0 : Nat} (a0 : Value) (a1 : Value) (a2 : Value) {H : Type} {enc : TypeId × Value → H} {d0 : DataW H} {p0 : List MemPlace} {d1 : DataW H} {p1 : List MemPlace} {d2 : DataW H} {p2 : List MemPlace} (h0a : DataW.Trod enc Try.prog W 0 (fun _ => true) true 9 a0 d0 p0) (h1a : DataW.Trod enc Try.prog W 0 (fun _ => true) true 9 a1 d1 p1) (h2a : DataW.Trod enc Try.prog W 0 (fun _ => true) true 2 a2 d2 p2)
    (c0 : Value.okWide Try.prog W .any b0 9 a0) (c1 : Value.okWide Try.prog W .any b0 9 a1) (c2 : Value.okWide Try.prog W .any b0 2 a2) :
    Calls Try.prog 6 #[a0, a1, a2] W fun e w' => e = .returned (.bool true) ∧ Below W.heap.size W w' := by
  have k0 := open_cell (n := 6) (k := .p .str) (t := 9) kt0 Try.underlying9 rfl h0a c0
  obtain ⟨v0, _, ev0, w0, kv0⟩ := c2_str k0
  cases ev0
  have k1 := open_cell (n := 6) (k := .p .str) (t := 9) kt1 Try.underlying9 rfl h1a c1
  obtain ⟨v1, _, ev1, w1, kv1⟩ := c2_str k1
  cases ev1
  have k2 := open_cell (n := 6) (k := .p (.int .i64)) (t := 2) kt2 Try.underlying2 rfl h2a c2
  obtain ⟨v2, _, ev2, w2, kv2⟩ := c2_int k2
  cases ev2
  have hs := sim (2 ^ 41) (by decide) v0 v1 v2 w0 w1 w2
  have hra : All2 (RA []) [.sc (.str v0), .sc (.str v1), .sc (.int .i64 v2)] [Value.string v0, Value.string v1, Value.int .i64 v2] := ⟨rfl, rfl, rfl, trivial⟩
  have hrh : RH (E := E) [] [] W := RH.ofRo (E := E) (bs := ([] : List B)) trivial
  have hro : ∀ i he, nth ([] : Hp E) i = some (some he) → he.ro = true := fun i he h => ro_map (E := E) (bs := ([] : List B)) h
  exact hs.law hro hra hrh

set_option maxRecDepth 100000 in
theorem lifted (os : Os) (started : os.Started) (H : Type) (enc : TypeId × Value → H) :
    ReturnsInHanded {} Try.checked os 6 .any (Rows.fnExactMakeVolumeSpec.pre6 enc Try.prog Try.f6 Rows.fnExactMakeVolumeRow.domain false) (Rows.fnExactMakeVolumeSpec.post enc Try.prog Try.f6 false true false false) := by
  refine returnsInHanded_of_change_sized (C := Try.checked) own started (by kernel_rfl) Try.func6
    (ChangeSpec.witness6 (enc := enc) (C := Try.checked) false ⟨#[], #[.string ByteArray.empty, .string ByteArray.empty, .int .i64 0], []⟩ 8 (by kernel_rfl) (by kernel_rfl) (by kernel_rfl) (by kernel_rfl)) ?_
  intro W base args ds gs before hval0 hW hcnd hsz0 _
  have hval : ∀ (j : Nat) t v, Try.f6.params[j]? = some t → args[j]? = some v → Value.okWide Try.prog W .any base t v := hval0
  have hW' := hW
  obtain ⟨p, q, hA0, hV, rfl, hfz, hnd⟩ := hW
  have hA : DataW.TrodAll enc Try.prog W 0 (fun _ => true) true Try.f6.params.toList args.toList ds p := hA0
  rw [Try.params6] at hA hval
  obtain ⟨v0, vs0, d0, ds0, p0, q0, hargs, rfl, rfl, h0, r0⟩ := trodAll_cons hA
  obtain ⟨v1, vs1, d1, ds1, p1, q1, rfl, rfl, rfl, h1, r1⟩ := trodAll_cons r0
  obtain ⟨v2, vs2, d2, ds2, p2, q2, rfl, rfl, rfl, h2, r2⟩ := trodAll_cons r1
  obtain ⟨rfl, rfl, rfl⟩ := trodAll_nil r2
  obtain rfl : args = #[v0, v1, v2] := by cases args; simp_all
  obtain ⟨rfl, rfl⟩ := trodVars_none hV
  have lt0 : ∀ x ∈ p0, x.block < W.heap.size := by obtain ⟨m, hm⟩ := h0; exact DataW.trod_lt m _ _ _ hm
  have b0 : Value.okWide Try.prog W .any base 9 v0 := hval 0 9 v0 rfl rfl
  have lt1 : ∀ x ∈ p1, x.block < W.heap.size := by obtain ⟨m, hm⟩ := h1; exact DataW.trod_lt m _ _ _ hm
  have b1 : Value.okWide Try.prog W .any base 9 v1 := hval 1 9 v1 rfl rfl
  have lt2 : ∀ x ∈ p2, x.block < W.heap.size := by obtain ⟨m, hm⟩ := h2; exact DataW.trod_lt m _ _ _ hm
  have b2 : Value.okWide Try.prog W .any base 2 v2 := hval 2 2 v2 rfl rfl
  clear hA0 hval0 hsz0
  refine (walk W v0 v1 v2 h0 h1 h2 b0 b1 b2).mono fun e W' ⟨he, bel⟩ => ?_
  subst he
  exact ⟨_, rfl, _, _, _, [], _, [], hW', trodAll_mk1 (shut_bool Try.underlying4 _), (trodAll_cons_mk (Below.trod laidOut (by kernel_rfl) (of_decide_eq_true (by kernel_rfl)) h0 bel lt0) (trodAll_cons_mk (Below.trod laidOut (by kernel_rfl) (of_decide_eq_true (by kernel_rfl)) h1 bel lt1) (trodAll_cons_mk (Below.trod laidOut (by kernel_rfl) (of_decide_eq_true (by kernel_rfl)) h2 bel lt2) trodAll_mk0))), rfl, bel.frame _, fun h => by cases h⟩

theorem over : Rows.fnExactMakeVolumeRow.holds Try.pinned (OpenSpec.ofChange Rows.fnExactMakeVolumeSpec) :=
  OpenClaim.holds_of_wide 6 Try.f6 rfl rfl rfl rfl rfl rfl rfl ⟨rfl, rfl, rfl, rfl, rfl⟩ rfl rfl rfl rfl rfl (by kernel_rfl) Try.func6 (by kernel_rfl)
    (of_decide_eq_true (by kernel_rfl)) (by unfold Func.isWrapper; first | (rw [if_pos (by decide +kernel)]; kernel_rfl) | (rw [if_neg (by decide +kernel)]; exact ⟨rfl, rfl⟩))
    (fun os started H enc _ => lifted os started H enc)
end Go.Sa.FnExactMakeVolume
namespace Go.Proofs.Ytmmgjioemnhoaaa
theorem fnExactMakeVolume_holds : Rows.FnExactMakeVolumeSaid := Go.Sa.FnExactMakeVolume.over
#print axioms fnExactMakeVolume_holds
end Go.Proofs.Ytmmgjioemnhoaaa
