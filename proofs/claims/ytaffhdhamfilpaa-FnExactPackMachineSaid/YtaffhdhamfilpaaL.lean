/- The law FnExactPackMachine returns true for every argument, and its arguments read as they did. No conditions. -/
import Derived.Test.YtaffhdhamfilpaaP0
import Derived.Test.YtaffhdhamfilpaaRows
import Derived.WalkKit
import Derived.ProofKit
import Derived.ShutString
import Derived.ChangeOld
import Derived.Below
import Derived.Carry
set_option linter.all false
namespace Go.Sa.FnExactPackMachine
open Go Go.Eng Go.Proofs Go.Sa Go.Proofs.Ytaffhdhamfilpaa
open Go.ChangeShapes Go.WideShapes Go.ChangeAt Go.RowKit

theorem own : ownKnob Try.prog.godebug = none := by kernel_rfl
theorem laidOut : laidOutB Try.prog = true := by kernel_rfl

theorem kt0 : ck2Ty Try.prog 6 25 = some [(.p (.int .i64), 2), (.s [.int .i64], 22), (.p (.int .i64), 2), (.s [.int .i64], 22), (.s [.int .i64], 22), (.p .str, 9), (.p (.int .i64), 2), (.p (.int .i64), 2), (.p (.int .i64), 2), (.s [.int .i64, .int .i64], 23), (.s [.int .i64, .int .i64], 23), (.p (.int .i64), 2)] := by kernel_rfl
theorem ct0 : Try.prog.cellTypes Try.prog.depth 25 = some [2, 22, 2, 22, 22, 9, 2, 2, 2, 23, 23, 2] := by kernel_rfl
theorem sz0 : Try.prog.cellsOf 25 = ([2, 22, 2, 22, 22, 9, 2, 2, 2, 23, 23, 2] : List TypeId).length := by kernel_rfl
theorem sim (N : Nat) (hN : 2 ^ 40 < N) (v0 : Int) (v1 : List Int) (v2 : Int) (v3 : List Int) (v4 : List Int) (v5 : ByteArray) (v6 : Int) (v7 : Int) (v8 : Int) (v9 : List PortValue) (v10 : List PortValue) (v11 : Int) (v1n : Bool) (v3n : Bool) (v4n : Bool) (v9n : Bool) (v10n : Bool) (w0 : (Lit.int .i64 v0).wf = true) (h1 : v1.length ≤ maxLen) (r1 : ∀ x ∈ v1, ∀ s ∈ ri64.cells x, svWf s) (w2 : (Lit.int .i64 v2).wf = true) (h3 : v3.length ≤ maxLen) (r3 : ∀ x ∈ v3, ∀ s ∈ ri64.cells x, svWf s) (h4 : v4.length ≤ maxLen) (r4 : ∀ x ∈ v4, ∀ s ∈ ri64.cells x, svWf s) (w5 : v5.size ≤ maxLen) (w6 : (Lit.int .i64 v6).wf = true) (w7 : (Lit.int .i64 v7).wf = true) (w8 : (Lit.int .i64 v8).wf = true) (h9 : v9.length ≤ maxLen) (r9 : ∀ x ∈ v9, ∀ s ∈ rlPortValue.cells x, svWf s) (h10 : v10.length ≤ maxLen) (r10 : ∀ x ∈ v10, ∀ s ∈ rlPortValue.cells x, svWf s) (w11 : (Lit.int .i64 v11).wf = true) : Sim E 3 [.agg [.int .i64 v0, .slc 0 none v1n, .int .i64 v2, .slc 1 none v3n, .slc 2 none v4n, .str v5, .int .i64 v6, .int .i64 v7, .int .i64 v8, .slc 3 none v9n, .slc 4 none v10n, .int .i64 v11]] [some ⟨true, .rows (.i64 v1)⟩, some ⟨true, .rows (.i64 v3)⟩, some ⟨true, .rows (.i64 v4)⟩, some ⟨true, .rows (.lPortValue v9)⟩, some ⟨true, .rows (.lPortValue v10)⟩] (.sc (.bool true)) [some ⟨true, .rows (.i64 v1)⟩, some ⟨true, .rows (.i64 v3)⟩, some ⟨true, .rows (.i64 v4)⟩, some ⟨true, .rows (.lPortValue v9)⟩, some ⟨true, .rows (.lPortValue v10)⟩] :=
  FnOk.sim (o_laws_FnExactPackMachine_rrrrr_ok N) (by
    show g_laws_FnExactPackMachine_rrrrr N v0 v1n v2 v3n v4n v5 v6 v7 v8 v9n v10n v11 v1 v3 v4 v9 v10 (fun b1 => some (AV.sc (SV.bool b1), ([some ⟨true, .rows (.i64 v1)⟩, some ⟨true, .rows (.i64 v3)⟩, some ⟨true, .rows (.i64 v4)⟩, some ⟨true, .rows (.lPortValue v9)⟩, some ⟨true, .rows (.lPortValue v10)⟩] : Hp E))) = _
    exact law_PackMachine N h1 h3 h4 w5 h9 h10 hN _)

set_option maxRecDepth 100000 in
theorem walk (W : World) {b0 : Nat} (a0 : Value) {H : Type} {enc : TypeId × Value → H} {d0 : DataW H} {p0 : List MemPlace} (h0a : DataW.Trod enc Try.prog W 0 (fun _ => true) true 25 a0 d0 p0)
    (c0 : Value.okWide Try.prog W .any b0 25 a0) :
    Calls Try.prog 3 #[a0] W fun e w' => e = .returned (.bool true) ∧ Below W.heap.size W w' := by
  obtain ⟨cs0, eq0, hw0⟩ := okWide_cells (ts := [2, 22, 2, 22, 22, 9, 2, 2, 2, 23, 23, 2]) Try.underlying25 ct0 sz0 c0
  subst eq0
  have k0 := open_arg (n := 6) (ks := [(.p (.int .i64), 2), (.s [.int .i64], 22), (.p (.int .i64), 2), (.s [.int .i64], 22), (.s [.int .i64], 22), (.p .str, 9), (.p (.int .i64), 2), (.p (.int .i64), 2), (.p (.int .i64), 2), (.s [.int .i64, .int .i64], 23), (.s [.int .i64, .int .i64], 23), (.p (.int .i64), 2)]) kt0 h0a (All2.of_map hw0)
  replace k0 : All2 (fun (p : CK2 × TypeId) v => ck2Ok W p.1 v) [(.p (.int .i64), 2), (.s [.int .i64], 22), (.p (.int .i64), 2), (.s [.int .i64], 22), (.s [.int .i64], 22), (.p .str, 9), (.p (.int .i64), 2), (.p (.int .i64), 2), (.p (.int .i64), 2), (.s [.int .i64, .int .i64], 23), (.s [.int .i64, .int .i64], 23), (.p (.int .i64), 2)] cs0 := k0
  obtain ⟨v0, _, ev0, w0, kv0⟩ := c2_int k0
  cases ev0
  obtain ⟨v1, v1n, pe0, u0, _, ev1, h1, r1, en0, rs0, kv1⟩ := c2_slc (E := E) (ctor := B.i64) ri64_ok wi64 rfl (fun _ => rfl) (fun _ => rfl) (fun _ => rfl) kv0
  cases ev1
  obtain ⟨v2, _, ev2, w2, kv2⟩ := c2_int kv1
  cases ev2
  obtain ⟨v3, v3n, pe1, u1, _, ev3, h3, r3, en1, rs1, kv3⟩ := c2_slc (E := E) (ctor := B.i64) ri64_ok wi64 rfl (fun _ => rfl) (fun _ => rfl) (fun _ => rfl) kv2
  cases ev3
  obtain ⟨v4, v4n, pe2, u2, _, ev4, h4, r4, en2, rs2, kv4⟩ := c2_slc (E := E) (ctor := B.i64) ri64_ok wi64 rfl (fun _ => rfl) (fun _ => rfl) (fun _ => rfl) kv3
  cases ev4
  obtain ⟨v5, _, ev5, w5, kv5⟩ := c2_str kv4
  cases ev5
  obtain ⟨v6, _, ev6, w6, kv6⟩ := c2_int kv5
  cases ev6
  obtain ⟨v7, _, ev7, w7, kv7⟩ := c2_int kv6
  cases ev7
  obtain ⟨v8, _, ev8, w8, kv8⟩ := c2_int kv7
  cases ev8
  obtain ⟨v9, v9n, pe3, u3, _, ev9, h9, r9, en3, rs3, kv9⟩ := c2_slc (E := E) (ctor := B.lPortValue) rlPortValue_ok wlPortValue rfl (fun _ => rfl) (fun _ => rfl) (fun _ => rfl) kv8
  cases ev9
  obtain ⟨v10, v10n, pe4, u4, _, ev10, h10, r10, en4, rs4, kv10⟩ := c2_slc (E := E) (ctor := B.lPortValue) rlPortValue_ok wlPortValue rfl (fun _ => rfl) (fun _ => rfl) (fun _ => rfl) kv9
  cases ev10
  obtain ⟨v11, _, ev11, w11, kv11⟩ := c2_int kv10
  cases ev11
  have en0x := c2_nil kv11
  cases en0x
  have hs := sim (2 ^ 41) (by decide) v0 v1 v2 v3 v4 v5 v6 v7 v8 v9 v10 v11 v1n v3n v4n v9n v10n w0 h1 r1 w2 h3 r3 h4 r4 w5 w6 w7 w8 h9 r9 h10 r10 w11
  have hra : All2 (RA [pe0, pe1, pe2, pe3, pe4]) [.agg [.int .i64 v0, .slc 0 none v1n, .int .i64 v2, .slc 1 none v3n, .slc 2 none v4n, .str v5, .int .i64 v6, .int .i64 v7, .int .i64 v8, .slc 3 none v9n, .slc 4 none v10n, .int .i64 v11]] [Value.agg [.int .i64 v0, u0, .int .i64 v2, u1, u2, .string v5, .int .i64 v6, .int .i64 v7, .int .i64 v8, u3, u4, .int .i64 v11].toArray] := ⟨⟨[.int .i64 v0, u0, .int .i64 v2, u1, u2, .string v5, .int .i64 v6, .int .i64 v7, .int .i64 v8, u3, u4, .int .i64 v11], rfl, rfl, rs0 _ 0 rfl, rfl, rs1 _ 1 rfl, rs2 _ 2 rfl, rfl, rfl, rfl, rfl, rs3 _ 3 rfl, rs4 _ 4 rfl, rfl, trivial⟩, trivial⟩
  have hrh : RH (E := E) [pe0, pe1, pe2, pe3, pe4] [some ⟨true, .rows (.i64 v1)⟩, some ⟨true, .rows (.i64 v3)⟩, some ⟨true, .rows (.i64 v4)⟩, some ⟨true, .rows (.lPortValue v9)⟩, some ⟨true, .rows (.lPortValue v10)⟩] W := RH.ofRo (E := E) (bs := ([.i64 v1, .i64 v3, .i64 v4, .lPortValue v9, .lPortValue v10] : List B)) ⟨en0, en1, en2, en3, en4, trivial⟩
  have hro : ∀ i he, nth ([some ⟨true, .rows (.i64 v1)⟩, some ⟨true, .rows (.i64 v3)⟩, some ⟨true, .rows (.i64 v4)⟩, some ⟨true, .rows (.lPortValue v9)⟩, some ⟨true, .rows (.lPortValue v10)⟩] : Hp E) i = some (some he) → he.ro = true := fun i he h => ro_map (E := E) (bs := ([.i64 v1, .i64 v3, .i64 v4, .lPortValue v9, .lPortValue v10] : List B)) h
  exact hs.law hro hra hrh

set_option maxRecDepth 100000 in
theorem lifted (os : Os) (started : os.Started) (H : Type) (enc : TypeId × Value → H) :
    ReturnsInHanded {} Try.checked os 3 .any (Rows.fnExactPackMachineSpec.pre6 enc Try.prog Try.f3 Rows.fnExactPackMachineRow.domain false) (Rows.fnExactPackMachineSpec.post enc Try.prog Try.f3 false true false false) := by
  refine returnsInHanded_of_change_sized (C := Try.checked) own started (by kernel_rfl) Try.func3
    (ChangeSpec.witness6 (enc := enc) (C := Try.checked) false ⟨#[], #[.agg #[.int .i64 0, .slice none 0 0, .int .i64 0, .slice none 0 0, .slice none 0 0, .string ByteArray.empty, .int .i64 0, .int .i64 0, .int .i64 0, .slice none 0 0, .slice none 0 0, .int .i64 0]], []⟩ 8 (by kernel_rfl) (by kernel_rfl) (by kernel_rfl) (by kernel_rfl)) ?_
  intro W base args ds gs before hval0 hW hcnd hsz0 _
  have hval : ∀ (j : Nat) t v, Try.f3.params[j]? = some t → args[j]? = some v → Value.okWide Try.prog W .any base t v := hval0
  have hW' := hW
  obtain ⟨p, q, hA0, hV, rfl, hfz, hnd⟩ := hW
  have hA : DataW.TrodAll enc Try.prog W 0 (fun _ => true) true Try.f3.params.toList args.toList ds p := hA0
  rw [Try.params3] at hA hval
  obtain ⟨v0, vs0, d0, ds0, p0, q0, hargs, rfl, rfl, h0, r0⟩ := trodAll_cons hA
  obtain ⟨rfl, rfl, rfl⟩ := trodAll_nil r0
  obtain rfl : args = #[v0] := by cases args; simp_all
  obtain ⟨rfl, rfl⟩ := trodVars_none hV
  have lt0 : ∀ x ∈ p0, x.block < W.heap.size := by obtain ⟨m, hm⟩ := h0; exact DataW.trod_lt m _ _ _ hm
  have b0 : Value.okWide Try.prog W .any base 25 v0 := hval 0 25 v0 rfl rfl
  clear hA0 hval0 hsz0
  refine (walk W v0 h0 b0).mono fun e W' ⟨he, bel⟩ => ?_
  subst he
  exact ⟨_, rfl, _, _, _, [], _, [], hW', trodAll_mk1 (shut_bool Try.underlying4 _), (trodAll_cons_mk (Below.trod laidOut (by kernel_rfl) (of_decide_eq_true (by kernel_rfl)) h0 bel lt0) trodAll_mk0), rfl, bel.frame _, fun h => by cases h⟩

theorem over : Rows.fnExactPackMachineRow.holds Try.pinned (OpenSpec.ofChange Rows.fnExactPackMachineSpec) :=
  OpenClaim.holds_of_wide 3 Try.f3 rfl rfl rfl rfl rfl rfl rfl ⟨rfl, rfl, rfl, rfl, rfl⟩ rfl rfl rfl rfl rfl (by kernel_rfl) Try.func3 (by kernel_rfl)
    (of_decide_eq_true (by kernel_rfl)) (by unfold Func.isWrapper; first | (rw [if_pos (by decide +kernel)]; kernel_rfl) | (rw [if_neg (by decide +kernel)]; exact ⟨rfl, rfl⟩))
    (fun os started H enc _ => lifted os started H enc)
end Go.Sa.FnExactPackMachine
namespace Go.Proofs.Ytaffhdhamfilpaa
theorem fnExactPackMachine_holds : Rows.FnExactPackMachineSaid := Go.Sa.FnExactPackMachine.over
#print axioms fnExactPackMachine_holds
end Go.Proofs.Ytaffhdhamfilpaa
