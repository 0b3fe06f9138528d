/- The law FnExactBoot returns true for every argument, and its arguments read as they did. No conditions. -/
import Derived.Test.YtaffhdhamfilpaaP0
import Derived.Test.YtaffhdhamfilpaaRows
import Derived.WalkKit
import Derived.ProofKit
import Derived.ShutString
import Derived.ChangeOld
import Derived.Below
import Derived.Carry
set_option linter.all false
namespace Go.Sa.FnExactBoot
open Go Go.Eng Go.Proofs Go.Sa Go.Proofs.Ytaffhdhamfilpaa
open Go.ChangeShapes Go.WideShapes Go.ChangeAt Go.RowKit

theorem own : ownKnob Try.prog.godebug = none := by kernel_rfl
theorem laidOut : laidOutB Try.prog = true := by kernel_rfl

theorem kt0 : ck2Ty Try.prog 6 9 = some [(.p .str, 9)] := by kernel_rfl
theorem kt1 : ck2Ty Try.prog 6 38 = some [(.p (.int .i64), 2), (.p (.int .i64), 2), (.s [.int .i64, .int .i64, .int .i64], 36)] := by kernel_rfl
theorem ct1 : Try.prog.cellTypes Try.prog.depth 38 = some [2, 2, 36] := by kernel_rfl
theorem sz1 : Try.prog.cellsOf 38 = ([2, 2, 36] : List TypeId).length := by kernel_rfl
theorem sim (N : Nat) (hN : 2 ^ 40 < N) (v0 : ByteArray) (v1 : Int) (v2 : Int) (v3 : List Device) (v3n : Bool) (w0 : v0.size ≤ maxLen) (w1 : (Lit.int .i64 v1).wf = true) (w2 : (Lit.int .i64 v2).wf = true) (h3 : v3.length ≤ maxLen) (r3 : ∀ x ∈ v3, ∀ s ∈ rlDevice.cells x, svWf s) : Sim E 5 [.sc (.str v0), .agg [.int .i64 v1, .int .i64 v2, .slc 0 none v3n]] [some ⟨true, .rows (.lDevice v3)⟩] (.sc (.bool true)) [some ⟨true, .rows (.lDevice v3)⟩] :=
  FnOk.sim (o_laws_FnExactBoot_r_ok N) (by
    show g_laws_FnExactBoot_r N v0 v1 v2 v3n v3 (fun b1 => some (AV.sc (SV.bool b1), ([some ⟨true, .rows (.lDevice v3)⟩] : Hp E))) = _
    exact law_Boot N h3 hN _)

set_option maxRecDepth 100000 in
theorem walk (W : World) {b0 : Nat} (a0 : Value) (a1 : Value) {H : Type} {enc : TypeId × Value → H} {d0 : DataW H} {p0 : List MemPlace} {d1 : DataW H} {p1 : List MemPlace} (h0a : DataW.Trod enc Try.prog W 0 (fun _ => true) true 9 a0 d0 p0) (h1a : DataW.Trod enc Try.prog W 0 (fun _ => true) true 38 a1 d1 p1)
    (c0 : Value.okWide Try.prog W .any b0 9 a0) (c1 : Value.okWide Try.prog W .any b0 38 a1) :
    Calls Try.prog 5 #[a0, a1] W fun e w' => e = .returned (.bool true) ∧ Below W.heap.size W w' := by
  have k0 := open_cell (n := 6) (k := .p .str) (t := 9) kt0 Try.underlying9 rfl h0a c0
  obtain ⟨v0, _, ev0, w0, kv0⟩ := c2_str k0
  cases ev0
  obtain ⟨cs1, eq1, hw1⟩ := okWide_cells (ts := [2, 2, 36]) Try.underlying38 ct1 sz1 c1
  subst eq1
  have k1 := open_arg (n := 6) (ks := [(.p (.int .i64), 2), (.p (.int .i64), 2), (.s [.int .i64, .int .i64, .int .i64], 36)]) kt1 h1a (All2.of_map hw1)
  replace k1 : All2 (fun (p : CK2 × TypeId) v => ck2Ok W p.1 v) [(.p (.int .i64), 2), (.p (.int .i64), 2), (.s [.int .i64, .int .i64, .int .i64], 36)] cs1 := k1
  obtain ⟨v1, _, ev1, w1, kv1⟩ := c2_int k1
  cases ev1
  obtain ⟨v2, _, ev2, w2, kv2⟩ := c2_int kv1
  cases ev2
  obtain ⟨v3, v3n, pe0, u0, _, ev3, h3, r3, en0, rs0, kv3⟩ := c2_slc (E := E) (ctor := B.lDevice) rlDevice_ok wlDevice rfl (fun _ => rfl) (fun _ => rfl) (fun _ => rfl) kv2
  cases ev3
  have en1x := c2_nil kv3
  cases en1x
  have hs := sim (2 ^ 41) (by decide) v0 v1 v2 v3 v3n w0 w1 w2 h3 r3
  have hra : All2 (RA [pe0]) [.sc (.str v0), .agg [.int .i64 v1, .int .i64 v2, .slc 0 none v3n]] [Value.string v0, Value.agg [.int .i64 v1, .int .i64 v2, u0].toArray] := ⟨rfl, ⟨[.int .i64 v1, .int .i64 v2, u0], rfl, rfl, rfl, rs0 _ 0 rfl, trivial⟩, trivial⟩
  have hrh : RH (E := E) [pe0] [some ⟨true, .rows (.lDevice v3)⟩] W := RH.ofRo (E := E) (bs := ([.lDevice v3] : List B)) ⟨en0, trivial⟩
  have hro : ∀ i he, nth ([some ⟨true, .rows (.lDevice v3)⟩] : Hp E) i = some (some he) → he.ro = true := fun i he h => ro_map (E := E) (bs := ([.lDevice v3] : List B)) h
  exact hs.law hro hra hrh

set_option maxRecDepth 100000 in
theorem lifted (os : Os) (started : os.Started) (H : Type) (enc : TypeId × Value → H) :
    ReturnsInHanded {} Try.checked os 5 .any (Rows.fnExactBootSpec.pre6 enc Try.prog Try.f5 Rows.fnExactBootRow.domain false) (Rows.fnExactBootSpec.post enc Try.prog Try.f5 false true false false) := by
  refine returnsInHanded_of_change_sized (C := Try.checked) own started (by kernel_rfl) Try.func5
    (ChangeSpec.witness6 (enc := enc) (C := Try.checked) false ⟨#[], #[.string ByteArray.empty, .agg #[.int .i64 0, .int .i64 0, .slice none 0 0]], []⟩ 8 (by kernel_rfl) (by kernel_rfl) (by kernel_rfl) (by kernel_rfl)) ?_
  intro W base args ds gs before hval0 hW hcnd hsz0 _
  have hval : ∀ (j : Nat) t v, Try.f5.params[j]? = some t → args[j]? = some v → Value.okWide Try.prog W .any base t v := hval0
  have hW' := hW
  obtain ⟨p, q, hA0, hV, rfl, hfz, hnd⟩ := hW
  have hA : DataW.TrodAll enc Try.prog W 0 (fun _ => true) true Try.f5.params.toList args.toList ds p := hA0
  rw [Try.params5] at hA hval
  obtain ⟨v0, vs0, d0, ds0, p0, q0, hargs, rfl, rfl, h0, r0⟩ := trodAll_cons hA
  obtain ⟨v1, vs1, d1, ds1, p1, q1, rfl, rfl, rfl, h1, r1⟩ := trodAll_cons r0
  obtain ⟨rfl, rfl, rfl⟩ := trodAll_nil r1
  obtain rfl : args = #[v0, v1] := by cases args; simp_all
  obtain ⟨rfl, rfl⟩ := trodVars_none hV
  have lt0 : ∀ x ∈ p0, x.block < W.heap.size := by obtain ⟨m, hm⟩ := h0; exact DataW.trod_lt m _ _ _ hm
  have b0 : Value.okWide Try.prog W .any base 9 v0 := hval 0 9 v0 rfl rfl
  have lt1 : ∀ x ∈ p1, x.block < W.heap.size := by obtain ⟨m, hm⟩ := h1; exact DataW.trod_lt m _ _ _ hm
  have b1 : Value.okWide Try.prog W .any base 38 v1 := hval 1 38 v1 rfl rfl
  clear hA0 hval0 hsz0
  refine (walk W v0 v1 h0 h1 b0 b1).mono fun e W' ⟨he, bel⟩ => ?_
  subst he
  exact ⟨_, rfl, _, _, _, [], _, [], hW', trodAll_mk1 (shut_bool Try.underlying4 _), (trodAll_cons_mk (Below.trod laidOut (by kernel_rfl) (of_decide_eq_true (by kernel_rfl)) h0 bel lt0) (trodAll_cons_mk (Below.trod laidOut (by kernel_rfl) (of_decide_eq_true (by kernel_rfl)) h1 bel lt1) trodAll_mk0)), rfl, bel.frame _, fun h => by cases h⟩

theorem over : Rows.fnExactBootRow.holds Try.pinned (OpenSpec.ofChange Rows.fnExactBootSpec) :=
  OpenClaim.holds_of_wide 5 Try.f5 rfl rfl rfl rfl rfl rfl rfl ⟨rfl, rfl, rfl, rfl, rfl⟩ rfl rfl rfl rfl rfl (by kernel_rfl) Try.func5 (by kernel_rfl)
    (of_decide_eq_true (by kernel_rfl)) (by unfold Func.isWrapper; first | (rw [if_pos (by decide +kernel)]; kernel_rfl) | (rw [if_neg (by decide +kernel)]; exact ⟨rfl, rfl⟩))
    (fun os started H enc _ => lifted os started H enc)
end Go.Sa.FnExactBoot
namespace Go.Proofs.Ytaffhdhamfilpaa
theorem fnExactBoot_holds : Rows.FnExactBootSaid := Go.Sa.FnExactBoot.over
#print axioms fnExactBoot_holds
end Go.Proofs.Ytaffhdhamfilpaa
