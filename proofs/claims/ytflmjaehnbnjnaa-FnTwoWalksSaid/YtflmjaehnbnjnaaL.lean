/- The law FnTwoWalks returns true for every argument, and its arguments read as they did. No conditions. -/
import Derived.Test.YtflmjaehnbnjnaaP1
import Derived.Test.YtflmjaehnbnjnaaRows
import Derived.WalkKit
import Derived.ProofKit
import Derived.ShutString
import Derived.ChangeOld
import Derived.Below
import Derived.Carry
set_option linter.all false
namespace Go.Sa.FnTwoWalks
open Go Go.Eng Go.Proofs Go.Sa Go.Proofs.Ytflmjaehnbnjnaa
open Go.ChangeShapes Go.WideShapes Go.ChangeAt Go.RowKit

theorem own : ownKnob Try.prog.godebug = none := by kernel_rfl
theorem laidOut : laidOutB Try.prog = true := by kernel_rfl

theorem kt0 : ck2Ty Try.prog 6 22 = some [(.s [.int .u8], 22)] := by kernel_rfl
theorem sim (N : Nat) (hN : 2 ^ 40 < N) (v0 : List Int) (v0n : Bool) (h0 : v0.length ≤ maxLen) (r0 : ∀ x ∈ v0, ∀ s ∈ ru8.cells x, svWf s) : Sim E 4 [.sc (.slc 0 none v0n)] [some ⟨true, .rows (.u8 v0)⟩] (.sc (.bool true)) [some ⟨true, .rows (.u8 v0)⟩] :=
  FnOk.sim (o_laws_FnTwoWalks_r_ok N) (by
    show g_laws_FnTwoWalks_r N v0n v0 (fun b1 => some (AV.sc (SV.bool b1), ([some ⟨true, .rows (.u8 v0)⟩] : Hp E))) = _
    exact law_FnTwoWalks N hN _)

set_option maxRecDepth 100000 in
theorem walk (W : World) {b0 : Nat} (a0 : Value) {H : Type} {enc : TypeId × Value → H} {d0 : DataW H} {p0 : List MemPlace} (h0a : DataW.Trod enc Try.prog W 0 (fun _ => true) true 22 a0 d0 p0)
    (c0 : Value.okWide Try.prog W .any b0 22 a0) :
    Calls Try.prog 4 #[a0] W fun e w' => e = .returned (.bool true) ∧ Below W.heap.size W w' := by
  have k0 := open_cell (n := 6) (k := .s [.int .u8]) (t := 22) kt0 Try.underlying22 rfl h0a c0
  obtain ⟨v0, v0n, pe0, u0, _, ev0, h0, r0, en0, rs0, kv0⟩ := c2_slc (E := E) (ctor := B.u8) ru8_ok wu8 rfl (fun _ => rfl) (fun _ => rfl) (fun _ => rfl) k0
  cases ev0
  have hs := sim (2 ^ 41) (by decide) v0 v0n h0 r0
  have hra : All2 (RA [pe0]) [.sc (.slc 0 none v0n)] [a0] := ⟨rs0 _ 0 rfl, trivial⟩
  have hrh : RH (E := E) [pe0] [some ⟨true, .rows (.u8 v0)⟩] W := RH.ofRo (E := E) (bs := ([.u8 v0] : List B)) ⟨en0, trivial⟩
  have hro : ∀ i he, nth ([some ⟨true, .rows (.u8 v0)⟩] : Hp E) i = some (some he) → he.ro = true := fun i he h => ro_map (E := E) (bs := ([.u8 v0] : List B)) h
  exact hs.law hro hra hrh

set_option maxRecDepth 100000 in
theorem lifted (os : Os) (started : os.Started) (H : Type) (enc : TypeId × Value → H) :
    ReturnsInHanded {} Try.checked os 4 .any (Rows.fnTwoWalksSpec.pre6 enc Try.prog Try.f4 Rows.fnTwoWalksRow.domain false) (Rows.fnTwoWalksSpec.post enc Try.prog Try.f4 false true false false) := by
  refine returnsInHanded_of_change_sized (C := Try.checked) own started (by kernel_rfl) Try.func4
    (ChangeSpec.witness6 (enc := enc) (C := Try.checked) false ⟨#[], #[.slice none 0 0], []⟩ 8 (by kernel_rfl) (by kernel_rfl) (by kernel_rfl) (by kernel_rfl)) ?_
  intro W base args ds gs before hval0 hW hcnd hsz0 _
  have hval : ∀ (j : Nat) t v, Try.f4.params[j]? = some t → args[j]? = some v → Value.okWide Try.prog W .any base t v := hval0
  have hW' := hW
  obtain ⟨p, q, hA0, hV, rfl, hfz, hnd⟩ := hW
  have hA : DataW.TrodAll enc Try.prog W 0 (fun _ => true) true Try.f4.params.toList args.toList ds p := hA0
  rw [Try.params4] at hA hval
  obtain ⟨v0, vs0, d0, ds0, p0, q0, hargs, rfl, rfl, h0, r0⟩ := trodAll_cons hA
  obtain ⟨rfl, rfl, rfl⟩ := trodAll_nil r0
  obtain rfl : args = #[v0] := by cases args; simp_all
  obtain ⟨rfl, rfl⟩ := trodVars_none hV
  have lt0 : ∀ x ∈ p0, x.block < W.heap.size := by obtain ⟨m, hm⟩ := h0; exact DataW.trod_lt m _ _ _ hm
  have b0 : Value.okWide Try.prog W .any base 22 v0 := hval 0 22 v0 rfl rfl
  clear hA0 hval0 hsz0
  refine (walk W v0 h0 b0).mono fun e W' ⟨he, bel⟩ => ?_
  subst he
  exact ⟨_, rfl, _, _, _, [], _, [], hW', trodAll_mk1 (shut_bool Try.underlying4 _), (trodAll_cons_mk (Below.trod laidOut (by kernel_rfl) (of_decide_eq_true (by kernel_rfl)) h0 bel lt0) trodAll_mk0), rfl, bel.frame _, fun h => by cases h⟩

theorem over : Rows.fnTwoWalksRow.holds Try.pinned (OpenSpec.ofChange Rows.fnTwoWalksSpec) :=
  OpenClaim.holds_of_wide 4 Try.f4 rfl rfl rfl rfl rfl rfl rfl ⟨rfl, rfl, rfl, rfl, rfl⟩ rfl rfl rfl rfl rfl (by kernel_rfl) Try.func4 (by kernel_rfl)
    (of_decide_eq_true (by kernel_rfl)) (by unfold Func.isWrapper; first | (rw [if_pos (by decide +kernel)]; kernel_rfl) | (rw [if_neg (by decide +kernel)]; exact ⟨rfl, rfl⟩))
    (fun os started H enc _ => lifted os started H enc)
end Go.Sa.FnTwoWalks
namespace Go.Proofs.Ytflmjaehnbnjnaa
theorem fnTwoWalks_holds : Rows.FnTwoWalksSaid := Go.Sa.FnTwoWalks.over
#print axioms fnTwoWalks_holds
end Go.Proofs.Ytflmjaehnbnjnaa
