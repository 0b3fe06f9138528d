/- The law FnExactTablesOf returns true for every argument, and its arguments read as they did. No conditions. -/
import Derived.Test.YtjimjkhpahegjaaP0
import Derived.Test.YtjimjkhpahegjaaRows
import Derived.WalkKit
import Derived.ProofKit
import Derived.ShutString
import Derived.ChangeOld
import Derived.Below
import Derived.Carry
set_option linter.all false
namespace Go.Sa.FnExactTablesOf
open Go Go.Eng Go.Proofs Go.Sa Go.Proofs.Ytjimjkhpahegjaa
open Go.ChangeShapes Go.WideShapes Go.ChangeAt Go.RowKit

theorem own : ownKnob Try.prog.godebug = none := by kernel_rfl
theorem laidOut : laidOutB Try.prog = true := by kernel_rfl

theorem kt0 : ck2Ty Try.prog 6 38 = some [(.p (.int .i64), 2), (.p (.int .i64), 2), (.s [.int .i64, .int .i64, .int .i64], 36)] := by kernel_rfl
theorem ct0 : Try.prog.cellTypes Try.prog.depth 38 = some [2, 2, 36] := by kernel_rfl
theorem sz0 : Try.prog.cellsOf 38 = ([2, 2, 36] : List TypeId).length := by kernel_rfl
theorem sim (N : Nat) (hN : 2 ^ 40 < N) (v0 : Int) (v1 : Int) (v2 : List Device) (v2n : Bool) (w0 : (Lit.int .i64 v0).wf = true) (w1 : (Lit.int .i64 v1).wf = true) (h2 : v2.length ≤ maxLen) (r2 : ∀ x ∈ v2, ∀ s ∈ rlDevice.cells x, svWf s) : Sim E 11 [.agg [.int .i64 v0, .int .i64 v1, .slc 0 none v2n]] [some ⟨true, .rows (.lDevice v2)⟩] (.sc (.bool true)) [some ⟨true, .rows (.lDevice v2)⟩] :=
  FnOk.sim (o_laws_FnExactTablesOf_r_ok N) (by
    show g_laws_FnExactTablesOf_r N v0 v1 v2n v2 (fun b1 => some (AV.sc (SV.bool b1), ([some ⟨true, .rows (.lDevice v2)⟩] : Hp E))) = _
    exact law_TablesOf N h2 hN _)

set_option maxRecDepth 100000 in
theorem walk (W : World) {b0 : Nat} (a0 : Value) {H : Type} {enc : TypeId × Value → H} {d0 : DataW H} {p0 : List MemPlace} (h0a : DataW.Trod enc Try.prog W 0 (fun _ => true) true 38 a0 d0 p0)
    (c0 : Value.okWide Try.prog W .any b0 38 a0) :
    Calls Try.prog 11 #[a0] W fun e w' => e = .returned (.bool true) ∧ Below W.heap.size W w' := by
  obtain ⟨cs0, eq0, hw0⟩ := okWide_cells (ts := [2, 2, 36]) Try.underlying38 ct0 sz0 c0
  subst eq0
  have k0 := open_arg (n := 6) (ks := [(.p (.int .i64), 2), (.p (.int .i64), 2), (.s [.int .i64, .int .i64, .int .i64], 36)]) kt0 h0a (All2.of_map hw0)
  replace k0 : All2 (fun (p : CK2 × TypeId) v => ck2Ok W p.1 v) [(.p (.int .i64), 2), (.p (.int .i64), 2), (.s [.int .i64, .int .i64, .int .i64], 36)] cs0 := k0
  obtain ⟨v0, _, ev0, w0, kv0⟩ := c2_int k0
  cases ev0
  obtain ⟨v1, _, ev1, w1, kv1⟩ := c2_int kv0
  cases ev1
  obtain ⟨v2, v2n, pe0, u0, _, ev2, h2, r2, en0, rs0, kv2⟩ := c2_slc (E := E) (ctor := B.lDevice) rlDevice_ok wlDevice rfl (fun _ => rfl) (fun _ => rfl) (fun _ => rfl) kv1
  cases ev2
  have en0x := c2_nil kv2
  cases en0x
  have hs := sim (2 ^ 41) (by decide) v0 v1 v2 v2n w0 w1 h2 r2
  have hra : All2 (RA [pe0]) [.agg [.int .i64 v0, .int .i64 v1, .slc 0 none v2n]] [Value.agg [.int .i64 v0, .int .i64 v1, u0].toArray] := ⟨⟨[.int .i64 v0, .int .i64 v1, u0], rfl, rfl, rfl, rs0 _ 0 rfl, trivial⟩, trivial⟩
  have hrh : RH (E := E) [pe0] [some ⟨true, .rows (.lDevice v2)⟩] W := RH.ofRo (E := E) (bs := ([.lDevice v2] : List B)) ⟨en0, trivial⟩
  have hro : ∀ i he, nth ([some ⟨true, .rows (.lDevice v2)⟩] : Hp E) i = some (some he) → he.ro = true := fun i he h => ro_map (E := E) (bs := ([.lDevice v2] : List B)) h
  exact hs.law hro hra hrh

set_option maxRecDepth 100000 in
theorem lifted (os : Os) (started : os.Started) (H : Type) (enc : TypeId × Value → H) :
    ReturnsInHanded {} Try.checked os 11 .any (Rows.fnExactTablesOfSpec.pre6 enc Try.prog Try.f11 Rows.fnExactTablesOfRow.domain false) (Rows.fnExactTablesOfSpec.post enc Try.prog Try.f11 false true false false) := by
  refine returnsInHanded_of_change_sized (C := Try.checked) own started (by kernel_rfl) Try.func11
    (ChangeSpec.witness6 (enc := enc) (C := Try.checked) false ⟨#[], #[.agg #[.int .i64 0, .int .i64 0, .slice none 0 0]], []⟩ 8 (by kernel_rfl) (by kernel_rfl) (by kernel_rfl) (by kernel_rfl)) ?_
  intro W base args ds gs before hval0 hW hcnd hsz0 _
  have hval : ∀ (j : Nat) t v, Try.f11.params[j]? = some t → args[j]? = some v → Value.okWide Try.prog W .any base t v := hval0
  have hW' := hW
  obtain ⟨p, q, hA0, hV, rfl, hfz, hnd⟩ := hW
  have hA : DataW.TrodAll enc Try.prog W 0 (fun _ => true) true Try.f11.params.toList args.toList ds p := hA0
  rw [Try.params11] at hA hval
  obtain ⟨v0, vs0, d0, ds0, p0, q0, hargs, rfl, rfl, h0, r0⟩ := trodAll_cons hA
  obtain ⟨rfl, rfl, rfl⟩ := trodAll_nil r0
  obtain rfl : args = #[v0] := by cases args; simp_all
  obtain ⟨rfl, rfl⟩ := trodVars_none hV
  have lt0 : ∀ x ∈ p0, x.block < W.heap.size := by obtain ⟨m, hm⟩ := h0; exact DataW.trod_lt m _ _ _ hm
  have b0 : Value.okWide Try.prog W .any base 38 v0 := hval 0 38 v0 rfl rfl
  clear hA0 hval0 hsz0
  refine (walk W v0 h0 b0).mono fun e W' ⟨he, bel⟩ => ?_
  subst he
  exact ⟨_, rfl, _, _, _, [], _, [], hW', trodAll_mk1 (shut_bool Try.underlying4 _), (trodAll_cons_mk (Below.trod laidOut (by kernel_rfl) (of_decide_eq_true (by kernel_rfl)) h0 bel lt0) trodAll_mk0), rfl, bel.frame _, fun h => by cases h⟩

theorem over : Rows.fnExactTablesOfRow.holds Try.pinned (OpenSpec.ofChange Rows.fnExactTablesOfSpec) :=
  OpenClaim.holds_of_wide 11 Try.f11 rfl rfl rfl rfl rfl rfl rfl ⟨rfl, rfl, rfl, rfl, rfl⟩ rfl rfl rfl rfl rfl (by kernel_rfl) Try.func11 (by kernel_rfl)
    (of_decide_eq_true (by kernel_rfl)) (by unfold Func.isWrapper; first | (rw [if_pos (by decide +kernel)]; kernel_rfl) | (rw [if_neg (by decide +kernel)]; exact ⟨rfl, rfl⟩))
    (fun os started H enc _ => lifted os started H enc)
end Go.Sa.FnExactTablesOf
namespace Go.Proofs.Ytjimjkhpahegjaa
theorem fnExactTablesOf_holds : Rows.FnExactTablesOfSaid := Go.Sa.FnExactTablesOf.over
#print axioms fnExactTablesOf_holds
end Go.Proofs.Ytjimjkhpahegjaa
