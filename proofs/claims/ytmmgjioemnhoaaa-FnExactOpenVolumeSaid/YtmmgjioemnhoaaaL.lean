/- The law FnExactOpenVolume returns true for every argument, and its arguments read as they did. No conditions. -/
import Derived.Test.YtmmgjioemnhoaaaP0
import Derived.Test.YtmmgjioemnhoaaaRows
import Derived.WalkKit
import Derived.ProofKit
import Derived.ShutString
import Derived.ChangeOld
import Derived.Below
import Derived.Carry
set_option linter.all false
namespace Go.Sa.FnExactOpenVolume
open Go Go.Eng Go.Proofs Go.Sa Go.Proofs.Ytmmgjioemnhoaaa
open Go.ChangeShapes Go.WideShapes Go.ChangeAt Go.RowKit

theorem own : ownKnob Try.prog.godebug = none := by kernel_rfl
theorem laidOut : laidOutB Try.prog = true := by kernel_rfl

theorem kt0 : ck2Ty Try.prog 6 58 = some [(.s [.int .i64, .str, .str], 56), (.p .str, 9)] := by kernel_rfl
theorem ct0 : Try.prog.cellTypes Try.prog.depth 58 = some [56, 9] := by kernel_rfl
theorem sz0 : Try.prog.cellsOf 58 = ([56, 9] : List TypeId).length := by kernel_rfl
theorem kt1 : ck2Ty Try.prog 6 9 = some [(.p .str, 9)] := by kernel_rfl
theorem sim (N : Nat) (hN : 2 ^ 40 < N) (v0 : List KeySlot) (v1 : ByteArray) (v2 : ByteArray) (v0n : Bool) (h0 : v0.length ≤ maxLen) (r0 : ∀ x ∈ v0, ∀ s ∈ rlKeySlot.cells x, svWf s) (w1 : v1.size ≤ maxLen) (w2 : v2.size ≤ maxLen) : Sim E 7 [.agg [.slc 0 none v0n, .str v1], .sc (.str v2)] [some ⟨true, .rows (.lKeySlot v0)⟩] (.sc (.bool true)) [some ⟨true, .rows (.lKeySlot v0)⟩] :=
  FnOk.sim (o_laws_FnExactOpenVolume_r_ok N) (by
    show g_laws_FnExactOpenVolume_r N v0n v1 v2 v0 (fun b1 => some (AV.sc (SV.bool b1), ([some ⟨true, .rows (.lKeySlot v0)⟩] : Hp E))) = _
    exact law_OpenVolume N w1 h0 r0 hN _)

set_option maxRecDepth 100000 in
theorem walk (W : World) {b0 : Nat} (a0 : Value) (a1 : Value) {H : Type} {enc : TypeId × Value → H} {d0 : DataW H} {p0 : List MemPlace} {d1 : DataW H} {p1 : List MemPlace} (h0a : DataW.Trod enc Try.prog W 0 (fun _ => true) true 58 a0 d0 p0) (h1a : DataW.Trod enc Try.prog W 0 (fun _ => true) true 9 a1 d1 p1)
    (c0 : Value.okWide Try.prog W .any b0 58 a0) (c1 : Value.okWide Try.prog W .any b0 9 a1) :
    Calls Try.prog 7 #[a0, a1] W fun e w' => e = .returned (.bool true) ∧ Below W.heap.size W w' := by
  obtain ⟨cs0, eq0, hw0⟩ := okWide_cells (ts := [56, 9]) Try.underlying58 ct0 sz0 c0
  subst eq0
  have k0 := open_arg (n := 6) (ks := [(.s [.int .i64, .str, .str], 56), (.p .str, 9)]) kt0 h0a (All2.of_map hw0)
  replace k0 : All2 (fun (p : CK2 × TypeId) v => ck2Ok W p.1 v) [(.s [.int .i64, .str, .str], 56), (.p .str, 9)] cs0 := k0
  obtain ⟨v0, v0n, pe0, u0, _, ev0, h0, r0, en0, rs0, kv0⟩ := c2_slc (E := E) (ctor := B.lKeySlot) rlKeySlot_ok wlKeySlot rfl (fun _ => rfl) (fun _ => rfl) (fun _ => rfl) k0
  cases ev0
  obtain ⟨v1, _, ev1, w1, kv1⟩ := c2_str kv0
  cases ev1
  have en0x := c2_nil kv1
  cases en0x
  have k1 := open_cell (n := 6) (k := .p .str) (t := 9) kt1 Try.underlying9 rfl h1a c1
  obtain ⟨v2, _, ev2, w2, kv2⟩ := c2_str k1
  cases ev2
  have hs := sim (2 ^ 41) (by decide) v0 v1 v2 v0n h0 r0 w1 w2
  have hra : All2 (RA [pe0]) [.agg [.slc 0 none v0n, .str v1], .sc (.str v2)] [Value.agg [u0, .string v1].toArray, Value.string v2] := ⟨⟨[u0, .string v1], rfl, rs0 _ 0 rfl, rfl, trivial⟩, rfl, trivial⟩
  have hrh : RH (E := E) [pe0] [some ⟨true, .rows (.lKeySlot v0)⟩] W := RH.ofRo (E := E) (bs := ([.lKeySlot v0] : List B)) ⟨en0, trivial⟩
  have hro : ∀ i he, nth ([some ⟨true, .rows (.lKeySlot v0)⟩] : Hp E) i = some (some he) → he.ro = true := fun i he h => ro_map (E := E) (bs := ([.lKeySlot v0] : List B)) h
  exact hs.law hro hra hrh

set_option maxRecDepth 100000 in
theorem lifted (os : Os) (started : os.Started) (H : Type) (enc : TypeId × Value → H) :
    ReturnsInHanded {} Try.checked os 7 .any (Rows.fnExactOpenVolumeSpec.pre6 enc Try.prog Try.f7 Rows.fnExactOpenVolumeRow.domain false) (Rows.fnExactOpenVolumeSpec.post enc Try.prog Try.f7 false true false false) := by
  refine returnsInHanded_of_change_sized (C := Try.checked) own started (by kernel_rfl) Try.func7
    (ChangeSpec.witness6 (enc := enc) (C := Try.checked) false ⟨#[], #[.agg #[.slice none 0 0, .string ByteArray.empty], .string ByteArray.empty], []⟩ 8 (by kernel_rfl) (by kernel_rfl) (by kernel_rfl) (by kernel_rfl)) ?_
  intro W base args ds gs before hval0 hW hcnd hsz0 _
  have hval : ∀ (j : Nat) t v, Try.f7.params[j]? = some t → args[j]? = some v → Value.okWide Try.prog W .any base t v := hval0
  have hW' := hW
  obtain ⟨p, q, hA0, hV, rfl, hfz, hnd⟩ := hW
  have hA : DataW.TrodAll enc Try.prog W 0 (fun _ => true) true Try.f7.params.toList args.toList ds p := hA0
  rw [Try.params7] at hA hval
  obtain ⟨v0, vs0, d0, ds0, p0, q0, hargs, rfl, rfl, h0, r0⟩ := trodAll_cons hA
  obtain ⟨v1, vs1, d1, ds1, p1, q1, rfl, rfl, rfl, h1, r1⟩ := trodAll_cons r0
  obtain ⟨rfl, rfl, rfl⟩ := trodAll_nil r1
  obtain rfl : args = #[v0, v1] := by cases args; simp_all
  obtain ⟨rfl, rfl⟩ := trodVars_none hV
  have lt0 : ∀ x ∈ p0, x.block < W.heap.size := by obtain ⟨m, hm⟩ := h0; exact DataW.trod_lt m _ _ _ hm
  have b0 : Value.okWide Try.prog W .any base 58 v0 := hval 0 58 v0 rfl rfl
  have lt1 : ∀ x ∈ p1, x.block < W.heap.size := by obtain ⟨m, hm⟩ := h1; exact DataW.trod_lt m _ _ _ hm
  have b1 : Value.okWide Try.prog W .any base 9 v1 := hval 1 9 v1 rfl rfl
  clear hA0 hval0 hsz0
  refine (walk W v0 v1 h0 h1 b0 b1).mono fun e W' ⟨he, bel⟩ => ?_
  subst he
  exact ⟨_, rfl, _, _, _, [], _, [], hW', trodAll_mk1 (shut_bool Try.underlying4 _), (trodAll_cons_mk (Below.trod laidOut (by kernel_rfl) (of_decide_eq_true (by kernel_rfl)) h0 bel lt0) (trodAll_cons_mk (Below.trod laidOut (by kernel_rfl) (of_decide_eq_true (by kernel_rfl)) h1 bel lt1) trodAll_mk0)), rfl, bel.frame _, fun h => by cases h⟩

theorem over : Rows.fnExactOpenVolumeRow.holds Try.pinned (OpenSpec.ofChange Rows.fnExactOpenVolumeSpec) :=
  OpenClaim.holds_of_wide 7 Try.f7 rfl rfl rfl rfl rfl rfl rfl ⟨rfl, rfl, rfl, rfl, rfl⟩ rfl rfl rfl rfl rfl (by kernel_rfl) Try.func7 (by kernel_rfl)
    (of_decide_eq_true (by kernel_rfl)) (by unfold Func.isWrapper; first | (rw [if_pos (by decide +kernel)]; kernel_rfl) | (rw [if_neg (by decide +kernel)]; exact ⟨rfl, rfl⟩))
    (fun os started H enc _ => lifted os started H enc)
end Go.Sa.FnExactOpenVolume
namespace Go.Proofs.Ytmmgjioemnhoaaa
theorem fnExactOpenVolume_holds : Rows.FnExactOpenVolumeSaid := Go.Sa.FnExactOpenVolume.over
#print axioms fnExactOpenVolume_holds
end Go.Proofs.Ytmmgjioemnhoaaa
