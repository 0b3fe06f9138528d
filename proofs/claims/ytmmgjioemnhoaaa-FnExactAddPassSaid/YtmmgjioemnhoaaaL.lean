/- The law FnExactAddPass returns true for every argument, and its arguments read as they did. No conditions. -/
import Derived.Test.YtmmgjioemnhoaaaP0
import Derived.Test.YtmmgjioemnhoaaaRows
import Derived.WalkKit
import Derived.ProofKit
import Derived.ShutString
import Derived.ChangeOld
import Derived.Below
import Derived.Carry
set_option linter.all false
namespace Go.Sa.FnExactAddPass
open Go Go.Eng Go.Proofs Go.Sa Go.Proofs.Ytmmgjioemnhoaaa
open Go.ChangeShapes Go.WideShapes Go.ChangeAt Go.RowKit

theorem own : ownKnob Try.prog.godebug = none := by kernel_rfl
theorem laidOut : laidOutB Try.prog = true := by kernel_rfl

theorem kt0 : ck2Ty Try.prog 6 58 = some [(.s [.int .i64, .str, .str], 56), (.p .str, 9)] := by kernel_rfl
theorem ct0 : Try.prog.cellTypes Try.prog.depth 58 = some [56, 9] := by kernel_rfl
theorem sz0 : Try.prog.cellsOf 58 = ([56, 9] : List TypeId).length := by kernel_rfl
theorem kt1 : ck2Ty Try.prog 6 9 = some [(.p .str, 9)] := by kernel_rfl
theorem kt2 : ck2Ty Try.prog 6 9 = some [(.p .str, 9)] := by kernel_rfl
theorem kt3 : ck2Ty Try.prog 6 2 = some [(.p (.int .i64), 2)] := by kernel_rfl
theorem sim (N : Nat) (hN : 2 ^ 40 < N) (v0 : List KeySlot) (v1 : ByteArray) (v2 : ByteArray) (v3 : ByteArray) (v4 : Int) (v0n : Bool) (h0 : v0.length ≤ maxLen) (r0 : ∀ x ∈ v0, ∀ s ∈ rlKeySlot.cells x, svWf s) (w1 : v1.size ≤ maxLen) (w2 : v2.size ≤ maxLen) (w3 : v3.size ≤ maxLen) (w4 : (Lit.int .i64 v4).wf = true) : Sim E 11 [.agg [.slc 0 none v0n, .str v1], .sc (.str v2), .sc (.str v3), .sc (.int .i64 v4)] [some ⟨true, .rows (.lKeySlot v0)⟩] (.sc (.bool true)) [some ⟨true, .rows (.lKeySlot v0)⟩] :=
  FnOk.sim (o_laws_FnExactAddPass_r_ok N) (by
    show g_laws_FnExactAddPass_r N v0n v1 v2 v3 v4 v0 (fun b1 => some (AV.sc (SV.bool b1), ([some ⟨true, .rows (.lKeySlot v0)⟩] : Hp E))) = _
    exact law_AddPass N w1 h0 r0 hN _)

set_option maxRecDepth 100000 in
theorem walk (W : World) {b0 : Nat} (a0 : Value) (a1 : Value) (a2 : Value) (a3 : Value) {H : Type} {enc : TypeId × Value → H} {d0 : DataW H} {p0 : List MemPlace} {d1 : DataW H} {p1 : List MemPlace} {d2 : DataW H} {p2 : List MemPlace} {d3 : DataW H} {p3 : List MemPlace} (h0a : DataW.Trod enc Try.prog W 0 (fun _ => true) true 58 a0 d0 p0) (h1a : DataW.Trod enc Try.prog W 0 (fun _ => true) true 9 a1 d1 p1) (h2a : DataW.Trod enc Try.prog W 0 (fun _ => true) true 9 a2 d2 p2) (h3a : DataW.Trod enc Try.prog W 0 (fun _ => true) true 2 a3 d3 p3)
    (c0 : Value.okWide Try.prog W .any b0 58 a0) (c1 : Value.okWide Try.prog W .any b0 9 a1) (c2 : Value.okWide Try.prog W .any b0 9 a2) (c3 : Value.okWide Try.prog W .any b0 2 a3) :
    Calls Try.prog 11 #[a0, a1, a2, a3] W fun e w' => e = .returned (.bool true) ∧ Below W.heap.size W w' := by
  obtain ⟨cs0, eq0, hw0⟩ := okWide_cells (ts := [56, 9]) Try.underlying58 ct0 sz0 c0
  subst eq0
  have k0 := open_arg (n := 6) (ks := [(.s [.int .i64, .str, .str], 56), (.p .str, 9)]) kt0 h0a (All2.of_map hw0)
  replace k0 : All2 (fun (p : CK2 × TypeId) v => ck2Ok W p.1 v) [(.s [.int .i64, .str, .str], 56), (.p .str, 9)] cs0 := k0
  obtain ⟨v0, v0n, pe0, u0, _, ev0, h0, r0, en0, rs0, kv0⟩ := c2_slc (E := E) (ctor := B.lKeySlot) rlKeySlot_ok wlKeySlot rfl (fun _ => rfl) (fun _ => rfl) (fun _ => rfl) k0
  cases ev0
  obtain ⟨v1, _, ev1, w1, kv1⟩ := c2_str kv0
  cases ev1
  have en0x := c2_nil kv1
  cases en0x
  have k1 := open_cell (n := 6) (k := .p .str) (t := 9) kt1 Try.underlying9 rfl h1a c1
  obtain ⟨v2, _, ev2, w2, kv2⟩ := c2_str k1
  cases ev2
  have k2 := open_cell (n := 6) (k := .p .str) (t := 9) kt2 Try.underlying9 rfl h2a c2
  obtain ⟨v3, _, ev3, w3, kv3⟩ := c2_str k2
  cases ev3
  have k3 := open_cell (n := 6) (k := .p (.int .i64)) (t := 2) kt3 Try.underlying2 rfl h3a c3
  obtain ⟨v4, _, ev4, w4, kv4⟩ := c2_int k3
  cases ev4
  have hs := sim (2 ^ 41) (by decide) v0 v1 v2 v3 v4 v0n h0 r0 w1 w2 w3 w4
  have hra : All2 (RA [pe0]) [.agg [.slc 0 none v0n, .str v1], .sc (.str v2), .sc (.str v3), .sc (.int .i64 v4)] [Value.agg [u0, .string v1].toArray, Value.string v2, Value.string v3, Value.int .i64 v4] := ⟨⟨[u0, .string v1], rfl, rs0 _ 0 rfl, rfl, trivial⟩, rfl, rfl, rfl, trivial⟩
  have hrh : RH (E := E) [pe0] [some ⟨true, .rows (.lKeySlot v0)⟩] W := RH.ofRo (E := E) (bs := ([.lKeySlot v0] : List B)) ⟨en0, trivial⟩
  have hro : ∀ i he, nth ([some ⟨true, .rows (.lKeySlot v0)⟩] : Hp E) i = some (some he) → he.ro = true := fun i he h => ro_map (E := E) (bs := ([.lKeySlot v0] : List B)) h
  exact hs.law hro hra hrh

set_option maxRecDepth 100000 in
theorem lifted (os : Os) (started : os.Started) (H : Type) (enc : TypeId × Value → H) :
    ReturnsInHanded {} Try.checked os 11 .any (Rows.fnExactAddPassSpec.pre6 enc Try.prog Try.f11 Rows.fnExactAddPassRow.domain false) (Rows.fnExactAddPassSpec.post enc Try.prog Try.f11 false true false false) := by
  refine returnsInHanded_of_change_sized (C := Try.checked) own started (by kernel_rfl) Try.func11
    (ChangeSpec.witness6 (enc := enc) (C := Try.checked) false ⟨#[], #[.agg #[.slice none 0 0, .string ByteArray.empty], .string ByteArray.empty, .string ByteArray.empty, .int .i64 0], []⟩ 8 (by kernel_rfl) (by kernel_rfl) (by kernel_rfl) (by kernel_rfl)) ?_
  intro W base args ds gs before hval0 hW hcnd hsz0 _
  have hval : ∀ (j : Nat) t v, Try.f11.params[j]? = some t → args[j]? = some v → Value.okWide Try.prog W .any base t v := hval0
  have hW' := hW
  obtain ⟨p, q, hA0, hV, rfl, hfz, hnd⟩ := hW
  have hA : DataW.TrodAll enc Try.prog W 0 (fun _ => true) true Try.f11.params.toList args.toList ds p := hA0
  rw [Try.params11] at hA hval
  obtain ⟨v0, vs0, d0, ds0, p0, q0, hargs, rfl, rfl, h0, r0⟩ := trodAll_cons hA
  obtain ⟨v1, vs1, d1, ds1, p1, q1, rfl, rfl, rfl, h1, r1⟩ := trodAll_cons r0
  obtain ⟨v2, vs2, d2, ds2, p2, q2, rfl, rfl, rfl, h2, r2⟩ := trodAll_cons r1
  obtain ⟨v3, vs3, d3, ds3, p3, q3, rfl, rfl, rfl, h3, r3⟩ := trodAll_cons r2
  obtain ⟨rfl, rfl, rfl⟩ := trodAll_nil r3
  obtain rfl : args = #[v0, v1, v2, v3] := by cases args; simp_all
  obtain ⟨rfl, rfl⟩ := trodVars_none hV
  have lt0 : ∀ x ∈ p0, x.block < W.heap.size := by obtain ⟨m, hm⟩ := h0; exact DataW.trod_lt m _ _ _ hm
  have b0 : Value.okWide Try.prog W .any base 58 v0 := hval 0 58 v0 rfl rfl
  have lt1 : ∀ x ∈ p1, x.block < W.heap.size := by obtain ⟨m, hm⟩ := h1; exact DataW.trod_lt m _ _ _ hm
  have b1 : Value.okWide Try.prog W .any base 9 v1 := hval 1 9 v1 rfl rfl
  have lt2 : ∀ x ∈ p2, x.block < W.heap.size := by obtain ⟨m, hm⟩ := h2; exact DataW.trod_lt m _ _ _ hm
  have b2 : Value.okWide Try.prog W .any base 9 v2 := hval 2 9 v2 rfl rfl
  have lt3 : ∀ x ∈ p3, x.block < W.heap.size := by obtain ⟨m, hm⟩ := h3; exact DataW.trod_lt m _ _ _ hm
  have b3 : Value.okWide Try.prog W .any base 2 v3 := hval 3 2 v3 rfl rfl
  clear hA0 hval0 hsz0
  refine (walk W v0 v1 v2 v3 h0 h1 h2 h3 b0 b1 b2 b3).mono fun e W' ⟨he, bel⟩ => ?_
  subst he
  exact ⟨_, rfl, _, _, _, [], _, [], hW', trodAll_mk1 (shut_bool Try.underlying4 _), (trodAll_cons_mk (Below.trod laidOut (by kernel_rfl) (of_decide_eq_true (by kernel_rfl)) h0 bel lt0) (trodAll_cons_mk (Below.trod laidOut (by kernel_rfl) (of_decide_eq_true (by kernel_rfl)) h1 bel lt1) (trodAll_cons_mk (Below.trod laidOut (by kernel_rfl) (of_decide_eq_true (by kernel_rfl)) h2 bel lt2) (trodAll_cons_mk (Below.trod laidOut (by kernel_rfl) (of_decide_eq_true (by kernel_rfl)) h3 bel lt3) trodAll_mk0)))), rfl, bel.frame _, fun h => by cases h⟩

theorem over : Rows.fnExactAddPassRow.holds Try.pinned (OpenSpec.ofChange Rows.fnExactAddPassSpec) :=
  OpenClaim.holds_of_wide 11 Try.f11 rfl rfl rfl rfl rfl rfl rfl ⟨rfl, rfl, rfl, rfl, rfl⟩ rfl rfl rfl rfl rfl (by kernel_rfl) Try.func11 (by kernel_rfl)
    (of_decide_eq_true (by kernel_rfl)) (by unfold Func.isWrapper; first | (rw [if_pos (by decide +kernel)]; kernel_rfl) | (rw [if_neg (by decide +kernel)]; exact ⟨rfl, rfl⟩))
    (fun os started H enc _ => lifted os started H enc)
end Go.Sa.FnExactAddPass
namespace Go.Proofs.Ytmmgjioemnhoaaa
theorem fnExactAddPass_holds : Rows.FnExactAddPassSaid := Go.Sa.FnExactAddPass.over
#print axioms fnExactAddPass_holds
end Go.Proofs.Ytmmgjioemnhoaaa
