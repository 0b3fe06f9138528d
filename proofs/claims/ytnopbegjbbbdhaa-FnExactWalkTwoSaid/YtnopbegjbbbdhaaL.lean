/- The law FnExactWalkTwo returns true for every argument, and its arguments read as they did. No conditions. -/
import Derived.Test.YtnopbegjbbbdhaaP0
import Derived.Test.YtnopbegjbbbdhaaRows
import Derived.WalkKit
import Derived.ProofKit
import Derived.ShutString
import Derived.ChangeOld
import Derived.Below
import Derived.Carry
set_option linter.all false
namespace Go.Sa.FnExactWalkTwo
open Go Go.Eng Go.Proofs Go.Sa Go.Proofs.Ytnopbegjbbbdhaa
open Go.ChangeShapes Go.WideShapes Go.ChangeAt Go.RowKit

theorem own : ownKnob Try.prog.godebug = none := by kernel_rfl
theorem laidOut : laidOutB Try.prog = true := by kernel_rfl

theorem kt0 : ck2Ty Try.prog 6 9 = some [(.p .str, 9)] := by kernel_rfl
theorem kt1 : ck2Ty Try.prog 6 2 = some [(.p (.int .i64), 2)] := by kernel_rfl
theorem kt2 : ck2Ty Try.prog 6 2 = some [(.p (.int .i64), 2)] := by kernel_rfl
theorem kt3 : ck2Ty Try.prog 6 2 = some [(.p (.int .i64), 2)] := by kernel_rfl
theorem kt4 : ck2Ty Try.prog 6 2 = some [(.p (.int .i64), 2)] := by kernel_rfl
theorem kt5 : ck2Ty Try.prog 6 4 = some [(.p .bool, 4)] := by kernel_rfl
theorem sim (N : Nat) (hN : 2 ^ 40 < N) (v0 : ByteArray) (v1 : Int) (v2 : Int) (v3 : Int) (v4 : Int) (v5 : Bool)  (w0 : v0.size ≤ maxLen) (w1 : (Lit.int .i64 v1).wf = true) (w2 : (Lit.int .i64 v2).wf = true) (w3 : (Lit.int .i64 v3).wf = true) (w4 : (Lit.int .i64 v4).wf = true) : Sim E 12 [.sc (.str v0), .sc (.int .i64 v1), .sc (.int .i64 v2), .sc (.int .i64 v3), .sc (.int .i64 v4), .sc (.bool v5)] [] (.sc (.bool true)) [] :=
  FnOk.sim (o_laws_FnExactWalkTwo_ok N) (by
    show g_laws_FnExactWalkTwo N v0 v1 v2 v3 v4 v5 (fun b1 => some (AV.sc (SV.bool b1), ([] : Hp E))) = _
    exact law_WalkTwo N _)

set_option maxRecDepth 100000 in
theorem walk (W : World) {b0 : Nat} (a0 : Value) (a1 : Value) (a2 : Value) (a3 : Value) (a4 : Value) (a5 : Value) {H : Type} {enc : TypeId × Value → H} {d0 : DataW H} {p0 : List MemPlace} {d1 : DataW H} {p1 : List MemPlace} {d2 : DataW H} {p2 : List MemPlace} {d3 : DataW H} {p3 : List MemPlace} {d4 : DataW H} {p4 : List MemPlace} {d5 : DataW H} {p5 : List MemPlace} (h0a : DataW.Trod enc Try.prog W 0 (fun _ => true) true 9 a0 d0 p0) (h1a : DataW.Trod enc Try.prog W 0 (fun _ => true) true 2 a1 d1 p1) (h2a : DataW.Trod enc Try.prog W 0 (fun _ => true) true 2 a2 d2 p2) (h3a : DataW.Trod enc Try.prog W 0 (fun _ => true) true 2 a3 d3 p3) (h4a : DataW.Trod enc Try.prog W 0 (fun _ => true) true 2 a4 d4 p4) (h5a : DataW.Trod enc Try.prog W 0 (fun _ => true) true 4 a5 d5 p5)
    (c0 : Value.okWide Try.prog W .any b0 9 a0) (c1 : Value.okWide Try.prog W .any b0 2 a1) (c2 : Value.okWide Try.prog W .any b0 2 a2) (c3 : Value.okWide Try.prog W .any b0 2 a3) (c4 : Value.okWide Try.prog W .any b0 2 a4) (c5 : Value.okWide Try.prog W .any b0 4 a5) :
    Calls Try.prog 12 #[a0, a1, a2, a3, a4, a5] W fun e w' => e = .returned (.bool true) ∧ Below W.heap.size W w' := by
  have k0 := open_cell (n := 6) (k := .p .str) (t := 9) kt0 Try.underlying9 rfl h0a c0
  obtain ⟨v0, _, ev0, w0, kv0⟩ := c2_str k0
  cases ev0
  have k1 := open_cell (n := 6) (k := .p (.int .i64)) (t := 2) kt1 Try.underlying2 rfl h1a c1
  obtain ⟨v1, _, ev1, w1, kv1⟩ := c2_int k1
  cases ev1
  have k2 := open_cell (n := 6) (k := .p (.int .i64)) (t := 2) kt2 Try.underlying2 rfl h2a c2
  obtain ⟨v2, _, ev2, w2, kv2⟩ := c2_int k2
  cases ev2
  have k3 := open_cell (n := 6) (k := .p (.int .i64)) (t := 2) kt3 Try.underlying2 rfl h3a c3
  obtain ⟨v3, _, ev3, w3, kv3⟩ := c2_int k3
  cases ev3
  have k4 := open_cell (n := 6) (k := .p (.int .i64)) (t := 2) kt4 Try.underlying2 rfl h4a c4
  obtain ⟨v4, _, ev4, w4, kv4⟩ := c2_int k4
  cases ev4
  have k5 := open_cell (n := 6) (k := .p .bool) (t := 4) kt5 Try.underlying4 rfl h5a c5
  obtain ⟨v5, _, ev5, kv5⟩ := c2_bool k5
  cases ev5
  have hs := sim (2 ^ 41) (by decide) v0 v1 v2 v3 v4 v5 w0 w1 w2 w3 w4
  have hra : All2 (RA []) [.sc (.str v0), .sc (.int .i64 v1), .sc (.int .i64 v2), .sc (.int .i64 v3), .sc (.int .i64 v4), .sc (.bool v5)] [Value.string v0, Value.int .i64 v1, Value.int .i64 v2, Value.int .i64 v3, Value.int .i64 v4, Value.bool v5] := ⟨rfl, rfl, rfl, rfl, rfl, rfl, trivial⟩
  have hrh : RH (E := E) [] [] W := RH.ofRo (E := E) (bs := ([] : List B)) trivial
  have hro : ∀ i he, nth ([] : Hp E) i = some (some he) → he.ro = true := fun i he h => ro_map (E := E) (bs := ([] : List B)) h
  exact hs.law hro hra hrh

set_option maxRecDepth 100000 in
theorem lifted (os : Os) (started : os.Started) (H : Type) (enc : TypeId × Value → H) :
    ReturnsInHanded {} Try.checked os 12 .any (Rows.fnExactWalkTwoSpec.pre6 enc Try.prog Try.f12 Rows.fnExactWalkTwoRow.domain false) (Rows.fnExactWalkTwoSpec.post enc Try.prog Try.f12 false true false false) := by
  refine returnsInHanded_of_change_sized (C := Try.checked) own started (by kernel_rfl) Try.func12
    (ChangeSpec.witness6 (enc := enc) (C := Try.checked) false ⟨#[], #[.string ByteArray.empty, .int .i64 0, .int .i64 0, .int .i64 0, .int .i64 0, .bool false], []⟩ 8 (by kernel_rfl) (by kernel_rfl) (by kernel_rfl) (by kernel_rfl)) ?_
  intro W base args ds gs before hval0 hW hcnd hsz0 _
  have hval : ∀ (j : Nat) t v, Try.f12.params[j]? = some t → args[j]? = some v → Value.okWide Try.prog W .any base t v := hval0
  have hW' := hW
  obtain ⟨p, q, hA0, hV, rfl, hfz, hnd⟩ := hW
  have hA : DataW.TrodAll enc Try.prog W 0 (fun _ => true) true Try.f12.params.toList args.toList ds p := hA0
  rw [Try.params12] at hA hval
  obtain ⟨v0, vs0, d0, ds0, p0, q0, hargs, rfl, rfl, h0, r0⟩ := trodAll_cons hA
  obtain ⟨v1, vs1, d1, ds1, p1, q1, rfl, rfl, rfl, h1, r1⟩ := trodAll_cons r0
  obtain ⟨v2, vs2, d2, ds2, p2, q2, rfl, rfl, rfl, h2, r2⟩ := trodAll_cons r1
  obtain ⟨v3, vs3, d3, ds3, p3, q3, rfl, rfl, rfl, h3, r3⟩ := trodAll_cons r2
  obtain ⟨v4, vs4, d4, ds4, p4, q4, rfl, rfl, rfl, h4, r4⟩ := trodAll_cons r3
  obtain ⟨v5, vs5, d5, ds5, p5, q5, rfl, rfl, rfl, h5, r5⟩ := trodAll_cons r4
  obtain ⟨rfl, rfl, rfl⟩ := trodAll_nil r5
  obtain rfl : args = #[v0, v1, v2, v3, v4, v5] := by cases args; simp_all
  obtain ⟨rfl, rfl⟩ := trodVars_none hV
  have lt0 : ∀ x ∈ p0, x.block < W.heap.size := by obtain ⟨m, hm⟩ := h0; exact DataW.trod_lt m _ _ _ hm
  have b0 : Value.okWide Try.prog W .any base 9 v0 := hval 0 9 v0 rfl rfl
  have lt1 : ∀ x ∈ p1, x.block < W.heap.size := by obtain ⟨m, hm⟩ := h1; exact DataW.trod_lt m _ _ _ hm
  have b1 : Value.okWide Try.prog W .any base 2 v1 := hval 1 2 v1 rfl rfl
  have lt2 : ∀ x ∈ p2, x.block < W.heap.size := by obtain ⟨m, hm⟩ := h2; exact DataW.trod_lt m _ _ _ hm
  have b2 : Value.okWide Try.prog W .any base 2 v2 := hval 2 2 v2 rfl rfl
  have lt3 : ∀ x ∈ p3, x.block < W.heap.size := by obtain ⟨m, hm⟩ := h3; exact DataW.trod_lt m _ _ _ hm
  have b3 : Value.okWide Try.prog W .any base 2 v3 := hval 3 2 v3 rfl rfl
  have lt4 : ∀ x ∈ p4, x.block < W.heap.size := by obtain ⟨m, hm⟩ := h4; exact DataW.trod_lt m _ _ _ hm
  have b4 : Value.okWide Try.prog W .any base 2 v4 := hval 4 2 v4 rfl rfl
  have lt5 : ∀ x ∈ p5, x.block < W.heap.size := by obtain ⟨m, hm⟩ := h5; exact DataW.trod_lt m _ _ _ hm
  have b5 : Value.okWide Try.prog W .any base 4 v5 := hval 5 4 v5 rfl rfl
  clear hA0 hval0 hsz0
  refine (walk W v0 v1 v2 v3 v4 v5 h0 h1 h2 h3 h4 h5 b0 b1 b2 b3 b4 b5).mono fun e W' ⟨he, bel⟩ => ?_
  subst he
  exact ⟨_, rfl, _, _, _, [], _, [], hW', trodAll_mk1 (shut_bool Try.underlying4 _), (trodAll_cons_mk (Below.trod laidOut (by kernel_rfl) (of_decide_eq_true (by kernel_rfl)) h0 bel lt0) (trodAll_cons_mk (Below.trod laidOut (by kernel_rfl) (of_decide_eq_true (by kernel_rfl)) h1 bel lt1) (trodAll_cons_mk (Below.trod laidOut (by kernel_rfl) (of_decide_eq_true (by kernel_rfl)) h2 bel lt2) (trodAll_cons_mk (Below.trod laidOut (by kernel_rfl) (of_decide_eq_true (by kernel_rfl)) h3 bel lt3) (trodAll_cons_mk (Below.trod laidOut (by kernel_rfl) (of_decide_eq_true (by kernel_rfl)) h4 bel lt4) (trodAll_cons_mk (Below.trod laidOut (by kernel_rfl) (of_decide_eq_true (by kernel_rfl)) h5 bel lt5) trodAll_mk0)))))), rfl, bel.frame _, fun h => by cases h⟩

theorem over : Rows.fnExactWalkTwoRow.holds Try.pinned (OpenSpec.ofChange Rows.fnExactWalkTwoSpec) :=
  OpenClaim.holds_of_wide 12 Try.f12 rfl rfl rfl rfl rfl rfl rfl ⟨rfl, rfl, rfl, rfl, rfl⟩ rfl rfl rfl rfl rfl (by kernel_rfl) Try.func12 (by kernel_rfl)
    (of_decide_eq_true (by kernel_rfl)) (by unfold Func.isWrapper; first | (rw [if_pos (by decide +kernel)]; kernel_rfl) | (rw [if_neg (by decide +kernel)]; exact ⟨rfl, rfl⟩))
    (fun os started H enc _ => lifted os started H enc)
end Go.Sa.FnExactWalkTwo
namespace Go.Proofs.Ytnopbegjbbbdhaa
theorem fnExactWalkTwo_holds : Rows.FnExactWalkTwoSaid := Go.Sa.FnExactWalkTwo.over
#print axioms fnExactWalkTwo_holds
end Go.Proofs.Ytnopbegjbbbdhaa
