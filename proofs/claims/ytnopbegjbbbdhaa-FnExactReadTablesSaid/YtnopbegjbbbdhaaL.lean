/- The law FnExactReadTables returns true for every argument, and its arguments read as they did. No conditions. -/
import Derived.Test.YtnopbegjbbbdhaaP0
import Derived.Test.YtnopbegjbbbdhaaRows
import Derived.WalkKit
import Derived.ProofKit
import Derived.ShutString
import Derived.ChangeOld
import Derived.Below
import Derived.Carry
set_option linter.all false
namespace Go.Sa.FnExactReadTables
open Go Go.Eng Go.Proofs Go.Sa Go.Proofs.Ytnopbegjbbbdhaa
open Go.ChangeShapes Go.WideShapes Go.ChangeAt Go.RowKit

theorem own : ownKnob Try.prog.godebug = none := by kernel_rfl
theorem laidOut : laidOutB Try.prog = true := by kernel_rfl

theorem kt0 : ck2Ty Try.prog 6 9 = some [(.p .str, 9)] := by kernel_rfl
theorem kt1 : ck2Ty Try.prog 6 2 = some [(.p (.int .i64), 2)] := by kernel_rfl
theorem sim (N : Nat) (hN : 2 ^ 40 < N) (v0 : ByteArray) (v1 : Int)  (w0 : v0.size ≤ maxLen) (w1 : (Lit.int .i64 v1).wf = true) : Sim E 7 [.sc (.str v0), .sc (.int .i64 v1)] [] (.sc (.bool true)) [] :=
  FnOk.sim (o_laws_FnExactReadTables_ok N) (by
    show g_laws_FnExactReadTables N v0 v1 (fun b1 => some (AV.sc (SV.bool b1), ([] : Hp E))) = _
    exact law_ReadTables N hN _)

set_option maxRecDepth 100000 in
theorem walk (W : World) {b0 : Nat} (a0 : Value) (a1 : Value) {H : Type} {enc : TypeId × Value → H} {d0 : DataW H} {p0 : List MemPlace} {d1 : DataW H} {p1 : List MemPlace} (h0a : DataW.Trod enc Try.prog W 0 (fun _ => true) true 9 a0 d0 p0) (h1a : DataW.Trod enc Try.prog W 0 (fun _ => true) true 2 a1 d1 p1)
    (c0 : Value.okWide Try.prog W .any b0 9 a0) (c1 : Value.okWide Try.prog W .any b0 2 a1) :
    Calls Try.prog 7 #[a0, a1] W fun e w' => e = .returned (.bool true) ∧ Below W.heap.size W w' := by
  have k0 := open_cell (n := 6) (k := .p .str) (t := 9) kt0 Try.underlying9 rfl h0a c0
  obtain ⟨v0, _, ev0, w0, kv0⟩ := c2_str k0
  cases ev0
  have k1 := open_cell (n := 6) (k := .p (.int .i64)) (t := 2) kt1 Try.underlying2 rfl h1a c1
  obtain ⟨v1, _, ev1, w1, kv1⟩ := c2_int k1
  cases ev1
  have hs := sim (2 ^ 41) (by decide) v0 v1 w0 w1
  have hra : All2 (RA []) [.sc (.str v0), .sc (.int .i64 v1)] [Value.string v0, Value.int .i64 v1] := ⟨rfl, rfl, trivial⟩
  have hrh : RH (E := E) [] [] W := RH.ofRo (E := E) (bs := ([] : List B)) trivial
  have hro : ∀ i he, nth ([] : Hp E) i = some (some he) → he.ro = true := fun i he h => ro_map (E := E) (bs := ([] : List B)) h
  exact hs.law hro hra hrh

set_option maxRecDepth 100000 in
theorem lifted (os : Os) (started : os.Started) (H : Type) (enc : TypeId × Value → H) :
    ReturnsInHanded {} Try.checked os 7 .any (Rows.fnExactReadTablesSpec.pre6 enc Try.prog Try.f7 Rows.fnExactReadTablesRow.domain false) (Rows.fnExactReadTablesSpec.post enc Try.prog Try.f7 false true false false) := by
  refine returnsInHanded_of_change_sized (C := Try.checked) own started (by kernel_rfl) Try.func7
    (ChangeSpec.witness6 (enc := enc) (C := Try.checked) false ⟨#[], #[.string ByteArray.empty, .int .i64 0], []⟩ 8 (by kernel_rfl) (by kernel_rfl) (by kernel_rfl) (by kernel_rfl)) ?_
  intro W base args ds gs before hval0 hW hcnd hsz0 _
  have hval : ∀ (j : Nat) t v, Try.f7.params[j]? = some t → args[j]? = some v → Value.okWide Try.prog W .any base t v := hval0
  have hW' := hW
  obtain ⟨p, q, hA0, hV, rfl, hfz, hnd⟩ := hW
  have hA : DataW.TrodAll enc Try.prog W 0 (fun _ => true) true Try.f7.params.toList args.toList ds p := hA0
  rw [Try.params7] at hA hval
  obtain ⟨v0, vs0, d0, ds0, p0, q0, hargs, rfl, rfl, h0, r0⟩ := trodAll_cons hA
  obtain ⟨v1, vs1, d1, ds1, p1, q1, rfl, rfl, rfl, h1, r1⟩ := trodAll_cons r0
  obtain ⟨rfl, rfl, rfl⟩ := trodAll_nil r1
  obtain rfl : args = #[v0, v1] := by cases args; simp_all
  obtain ⟨rfl, rfl⟩ := trodVars_none hV
  have lt0 : ∀ x ∈ p0, x.block < W.heap.size := by obtain ⟨m, hm⟩ := h0; exact DataW.trod_lt m _ _ _ hm
  have b0 : Value.okWide Try.prog W .any base 9 v0 := hval 0 9 v0 rfl rfl
  have lt1 : ∀ x ∈ p1, x.block < W.heap.size := by obtain ⟨m, hm⟩ := h1; exact DataW.trod_lt m _ _ _ hm
  have b1 : Value.okWide Try.prog W .any base 2 v1 := hval 1 2 v1 rfl rfl
  clear hA0 hval0 hsz0
  refine (walk W v0 v1 h0 h1 b0 b1).mono fun e W' ⟨he, bel⟩ => ?_
  subst he
  exact ⟨_, rfl, _, _, _, [], _, [], hW', trodAll_mk1 (shut_bool Try.underlying4 _), (trodAll_cons_mk (Below.trod laidOut (by kernel_rfl) (of_decide_eq_true (by kernel_rfl)) h0 bel lt0) (trodAll_cons_mk (Below.trod laidOut (by kernel_rfl) (of_decide_eq_true (by kernel_rfl)) h1 bel lt1) trodAll_mk0)), rfl, bel.frame _, fun h => by cases h⟩

theorem over : Rows.fnExactReadTablesRow.holds Try.pinned (OpenSpec.ofChange Rows.fnExactReadTablesSpec) :=
  OpenClaim.holds_of_wide 7 Try.f7 rfl rfl rfl rfl rfl rfl rfl ⟨rfl, rfl, rfl, rfl, rfl⟩ rfl rfl rfl rfl rfl (by kernel_rfl) Try.func7 (by kernel_rfl)
    (of_decide_eq_true (by kernel_rfl)) (by unfold Func.isWrapper; first | (rw [if_pos (by decide +kernel)]; kernel_rfl) | (rw [if_neg (by decide +kernel)]; exact ⟨rfl, rfl⟩))
    (fun os started H enc _ => lifted os started H enc)
end Go.Sa.FnExactReadTables
namespace Go.Proofs.Ytnopbegjbbbdhaa
theorem fnExactReadTables_holds : Rows.FnExactReadTablesSaid := Go.Sa.FnExactReadTables.over
#print axioms fnExactReadTables_holds
end Go.Proofs.Ytnopbegjbbbdhaa
