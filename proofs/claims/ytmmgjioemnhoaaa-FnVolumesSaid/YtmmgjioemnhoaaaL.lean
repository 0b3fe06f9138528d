/- The law FnVolumes returns true for every argument, and its arguments read as they did. No conditions. -/
import Derived.Test.YtmmgjioemnhoaaaP0
import Derived.Test.YtmmgjioemnhoaaaRows
import Derived.WalkKit
import Derived.ProofKit
import Derived.ShutString
import Derived.ChangeOld
import Derived.Below
import Derived.Carry
set_option linter.all false
namespace Go.Sa.FnVolumes
open Go Go.Eng Go.Proofs Go.Sa Go.Proofs.Ytmmgjioemnhoaaa
open Go.ChangeShapes Go.WideShapes Go.ChangeAt Go.RowKit

theorem own : ownKnob Try.prog.godebug = none := by kernel_rfl
theorem laidOut : laidOutB Try.prog = true := by kernel_rfl

theorem kt0 : ck2Ty Try.prog 6 38 = some [(.s [.int .u8], 38)] := by kernel_rfl
theorem kt1 : ck2Ty Try.prog 6 38 = some [(.s [.int .u8], 38)] := by kernel_rfl
theorem sim (N : Nat) (hN : 2 ^ 40 < N) (v0 : List Int) (v1 : List Int) (v0n : Bool) (v1n : Bool) (h0 : v0.length ≤ maxLen) (r0 : ∀ x ∈ v0, ∀ s ∈ ru8.cells x, svWf s) (h1 : v1.length ≤ maxLen) (r1 : ∀ x ∈ v1, ∀ s ∈ ru8.cells x, svWf s) : Sim E 10 [.sc (.slc 0 none v0n), .sc (.slc 1 none v1n)] [some ⟨true, .rows (.u8 v0)⟩, some ⟨true, .rows (.u8 v1)⟩] (.sc (.bool true)) [some ⟨true, .rows (.u8 v0)⟩, some ⟨true, .rows (.u8 v1)⟩] :=
  FnOk.sim (o_laws_FnVolumes_rr_ok N) (by
    show g_laws_FnVolumes_rr N v0n v1n v0 v1 (fun b1 => some (AV.sc (SV.bool b1), ([some ⟨true, .rows (.u8 v0)⟩, some ⟨true, .rows (.u8 v1)⟩] : Hp E))) = _
    exact law_Volumes N hN _)

set_option maxRecDepth 100000 in
theorem walk (W : World) {b0 : Nat} (a0 : Value) (a1 : Value) {H : Type} {enc : TypeId × Value → H} {d0 : DataW H} {p0 : List MemPlace} {d1 : DataW H} {p1 : List MemPlace} (h0a : DataW.Trod enc Try.prog W 0 (fun _ => true) true 38 a0 d0 p0) (h1a : DataW.Trod enc Try.prog W 0 (fun _ => true) true 38 a1 d1 p1)
    (c0 : Value.okWide Try.prog W .any b0 38 a0) (c1 : Value.okWide Try.prog W .any b0 38 a1) :
    Calls Try.prog 10 #[a0, a1] W fun e w' => e = .returned (.bool true) ∧ Below W.heap.size W w' := by
  have k0 := open_cell (n := 6) (k := .s [.int .u8]) (t := 38) kt0 Try.underlying38 rfl h0a c0
  obtain ⟨v0, v0n, pe0, u0, _, ev0, h0, r0, en0, rs0, kv0⟩ := c2_slc (E := E) (ctor := B.u8) ru8_ok wu8 rfl (fun _ => rfl) (fun _ => rfl) (fun _ => rfl) k0
  cases ev0
  have k1 := open_cell (n := 6) (k := .s [.int .u8]) (t := 38) kt1 Try.underlying38 rfl h1a c1
  obtain ⟨v1, v1n, pe1, u1, _, ev1, h1, r1, en1, rs1, kv1⟩ := c2_slc (E := E) (ctor := B.u8) ru8_ok wu8 rfl (fun _ => rfl) (fun _ => rfl) (fun _ => rfl) k1
  cases ev1
  have hs := sim (2 ^ 41) (by decide) v0 v1 v0n v1n h0 r0 h1 r1
  have hra : All2 (RA [pe0, pe1]) [.sc (.slc 0 none v0n), .sc (.slc 1 none v1n)] [a0, a1] := ⟨rs0 _ 0 rfl, rs1 _ 1 rfl, trivial⟩
  have hrh : RH (E := E) [pe0, pe1] [some ⟨true, .rows (.u8 v0)⟩, some ⟨true, .rows (.u8 v1)⟩] W := RH.ofRo (E := E) (bs := ([.u8 v0, .u8 v1] : List B)) ⟨en0, en1, trivial⟩
  have hro : ∀ i he, nth ([some ⟨true, .rows (.u8 v0)⟩, some ⟨true, .rows (.u8 v1)⟩] : Hp E) i = some (some he) → he.ro = true := fun i he h => ro_map (E := E) (bs := ([.u8 v0, .u8 v1] : List B)) h
  exact hs.law hro hra hrh

set_option maxRecDepth 100000 in
theorem lifted (os : Os) (started : os.Started) (H : Type) (enc : TypeId × Value → H) :
    ReturnsInHanded {} Try.checked os 10 .any (Rows.fnVolumesSpec.pre6 enc Try.prog Try.f10 Rows.fnVolumesRow.domain false) (Rows.fnVolumesSpec.post enc Try.prog Try.f10 false true false false) := by
  refine returnsInHanded_of_change_sized (C := Try.checked) own started (by kernel_rfl) Try.func10
    (ChangeSpec.witness6 (enc := enc) (C := Try.checked) false ⟨#[], #[.slice none 0 0, .slice none 0 0], []⟩ 8 (by kernel_rfl) (by kernel_rfl) (by kernel_rfl) (by kernel_rfl)) ?_
  intro W base args ds gs before hval0 hW hcnd hsz0 _
  have hval : ∀ (j : Nat) t v, Try.f10.params[j]? = some t → args[j]? = some v → Value.okWide Try.prog W .any base t v := hval0
  have hW' := hW
  obtain ⟨p, q, hA0, hV, rfl, hfz, hnd⟩ := hW
  have hA : DataW.TrodAll enc Try.prog W 0 (fun _ => true) true Try.f10.params.toList args.toList ds p := hA0
  rw [Try.params10] at hA hval
  obtain ⟨v0, vs0, d0, ds0, p0, q0, hargs, rfl, rfl, h0, r0⟩ := trodAll_cons hA
  obtain ⟨v1, vs1, d1, ds1, p1, q1, rfl, rfl, rfl, h1, r1⟩ := trodAll_cons r0
  obtain ⟨rfl, rfl, rfl⟩ := trodAll_nil r1
  obtain rfl : args = #[v0, v1] := by cases args; simp_all
  obtain ⟨rfl, rfl⟩ := trodVars_none hV
  have lt0 : ∀ x ∈ p0, x.block < W.heap.size := by obtain ⟨m, hm⟩ := h0; exact DataW.trod_lt m _ _ _ hm
  have b0 : Value.okWide Try.prog W .any base 38 v0 := hval 0 38 v0 rfl rfl
  have lt1 : ∀ x ∈ p1, x.block < W.heap.size := by obtain ⟨m, hm⟩ := h1; exact DataW.trod_lt m _ _ _ hm
  have b1 : Value.okWide Try.prog W .any base 38 v1 := hval 1 38 v1 rfl rfl
  clear hA0 hval0 hsz0
  refine (walk W v0 v1 h0 h1 b0 b1).mono fun e W' ⟨he, bel⟩ => ?_
  subst he
  exact ⟨_, rfl, _, _, _, [], _, [], hW', trodAll_mk1 (shut_bool Try.underlying4 _), (trodAll_cons_mk (Below.trod laidOut (by kernel_rfl) (of_decide_eq_true (by kernel_rfl)) h0 bel lt0) (trodAll_cons_mk (Below.trod laidOut (by kernel_rfl) (of_decide_eq_true (by kernel_rfl)) h1 bel lt1) trodAll_mk0)), rfl, bel.frame _, fun h => by cases h⟩

theorem over : Rows.fnVolumesRow.holds Try.pinned (OpenSpec.ofChange Rows.fnVolumesSpec) :=
  OpenClaim.holds_of_wide 10 Try.f10 rfl rfl rfl rfl rfl rfl rfl ⟨rfl, rfl, rfl, rfl, rfl⟩ rfl rfl rfl rfl rfl (by kernel_rfl) Try.func10 (by kernel_rfl)
    (of_decide_eq_true (by kernel_rfl)) (by unfold Func.isWrapper; first | (rw [if_pos (by decide +kernel)]; kernel_rfl) | (rw [if_neg (by decide +kernel)]; exact ⟨rfl, rfl⟩))
    (fun os started H enc _ => lifted os started H enc)
end Go.Sa.FnVolumes
namespace Go.Proofs.Ytmmgjioemnhoaaa
theorem fnVolumes_holds : Rows.FnVolumesSaid := Go.Sa.FnVolumes.over
#print axioms fnVolumes_holds
end Go.Proofs.Ytmmgjioemnhoaaa
