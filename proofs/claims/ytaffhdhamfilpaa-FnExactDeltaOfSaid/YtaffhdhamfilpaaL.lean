/- The law FnExactDeltaOf returns true for every argument, and its arguments read as they did. No conditions. -/
import Derived.Test.YtaffhdhamfilpaaP0
import Derived.Test.YtaffhdhamfilpaaRows
import Derived.WalkKit
import Derived.ProofKit
import Derived.ShutString
import Derived.ChangeOld
import Derived.Below
import Derived.Carry
set_option linter.all false
namespace Go.Sa.FnExactDeltaOf
open Go Go.Eng Go.Proofs Go.Sa Go.Proofs.Ytaffhdhamfilpaa
open Go.ChangeShapes Go.WideShapes Go.ChangeAt Go.RowKit

theorem own : ownKnob Try.prog.godebug = none := by kernel_rfl
theorem laidOut : laidOutB Try.prog = true := by kernel_rfl

theorem kt0 : ck2Ty Try.prog 6 25 = some [(.p (.int .i64), 2), (.s [.int .i64], 22), (.p (.int .i64), 2), (.s [.int .i64], 22), (.s [.int .i64], 22), (.p .str, 9), (.p (.int .i64), 2), (.p (.int .i64), 2), (.p (.int .i64), 2), (.s [.int .i64, .int .i64], 23), (.s [.int .i64, .int .i64], 23), (.p (.int .i64), 2)] := by kernel_rfl
theorem ct0 : Try.prog.cellTypes Try.prog.depth 25 = some [2, 22, 2, 22, 22, 9, 2, 2, 2, 23, 23, 2] := by kernel_rfl
theorem sz0 : Try.prog.cellsOf 25 = ([2, 22, 2, 22, 22, 9, 2, 2, 2, 23, 23, 2] : List TypeId).length := by kernel_rfl
theorem kt1 : ck2Ty Try.prog 6 25 = some [(.p (.int .i64), 2), (.s [.int .i64], 22), (.p (.int .i64), 2), (.s [.int .i64], 22), (.s [.int .i64], 22), (.p .str, 9), (.p (.int .i64), 2), (.p (.int .i64), 2), (.p (.int .i64), 2), (.s [.int .i64, .int .i64], 23), (.s [.int .i64, .int .i64], 23), (.p (.int .i64), 2)] := by kernel_rfl
theorem ct1 : Try.prog.cellTypes Try.prog.depth 25 = some [2, 22, 2, 22, 22, 9, 2, 2, 2, 23, 23, 2] := by kernel_rfl
theorem sz1 : Try.prog.cellsOf 25 = ([2, 22, 2, 22, 22, 9, 2, 2, 2, 23, 23, 2] : List TypeId).length := by kernel_rfl
theorem sim (N : Nat) (hN : 2 ^ 40 < N) (v0 : Int) (v1 : List Int) (v2 : Int) (v3 : List Int) (v4 : List Int) (v5 : ByteArray) (v6 : Int) (v7 : Int) (v8 : Int) (v9 : List PortValue) (v10 : List PortValue) (v11 : Int) (v12 : Int) (v13 : List Int) (v14 : Int) (v15 : List Int) (v16 : List Int) (v17 : ByteArray) (v18 : Int) (v19 : Int) (v20 : Int) (v21 : List PortValue) (v22 : List PortValue) (v23 : Int) (v1n : Bool) (v3n : Bool) (v4n : Bool) (v9n : Bool) (v10n : Bool) (v13n : Bool) (v15n : Bool) (v16n : Bool) (v21n : Bool) (v22n : Bool) (w0 : (Lit.int .i64 v0).wf = true) (h1 : v1.length ≤ maxLen) (r1 : ∀ x ∈ v1, ∀ s ∈ ri64.cells x, svWf s) (w2 : (Lit.int .i64 v2).wf = true) (h3 : v3.length ≤ maxLen) (r3 : ∀ x ∈ v3, ∀ s ∈ ri64.cells x, svWf s) (h4 : v4.length ≤ maxLen) (r4 : ∀ x ∈ v4, ∀ s ∈ ri64.cells x, svWf s) (w5 : v5.size ≤ maxLen) (w6 : (Lit.int .i64 v6).wf = true) (w7 : (Lit.int .i64 v7).wf = true) (w8 : (Lit.int .i64 v8).wf = true) (h9 : v9.length ≤ maxLen) (r9 : ∀ x ∈ v9, ∀ s ∈ rlPortValue.cells x, svWf s) (h10 : v10.length ≤ maxLen) (r10 : ∀ x ∈ v10, ∀ s ∈ rlPortValue.cells x, svWf s) (w11 : (Lit.int .i64 v11).wf = true) (w12 : (Lit.int .i64 v12).wf = true) (h13 : v13.length ≤ maxLen) (r13 : ∀ x ∈ v13, ∀ s ∈ ri64.cells x, svWf s) (w14 : (Lit.int .i64 v14).wf = true) (h15 : v15.length ≤ maxLen) (r15 : ∀ x ∈ v15, ∀ s ∈ ri64.cells x, svWf s) (h16 : v16.length ≤ maxLen) (r16 : ∀ x ∈ v16, ∀ s ∈ ri64.cells x, svWf s) (w17 : v17.size ≤ maxLen) (w18 : (Lit.int .i64 v18).wf = true) (w19 : (Lit.int .i64 v19).wf = true) (w20 : (Lit.int .i64 v20).wf = true) (h21 : v21.length ≤ maxLen) (r21 : ∀ x ∈ v21, ∀ s ∈ rlPortValue.cells x, svWf s) (h22 : v22.length ≤ maxLen) (r22 : ∀ x ∈ v22, ∀ s ∈ rlPortValue.cells x, svWf s) (w23 : (Lit.int .i64 v23).wf = true) : Sim E 4 [.agg [.int .i64 v0, .slc 0 none v1n, .int .i64 v2, .slc 1 none v3n, .slc 2 none v4n, .str v5, .int .i64 v6, .int .i64 v7, .int .i64 v8, .slc 3 none v9n, .slc 4 none v10n, .int .i64 v11], .agg [.int .i64 v12, .slc 5 none v13n, .int .i64 v14, .slc 6 none v15n, .slc 7 none v16n, .str v17, .int .i64 v18, .int .i64 v19, .int .i64 v20, .slc 8 none v21n, .slc 9 none v22n, .int .i64 v23]] [some ⟨true, .rows (.i64 v1)⟩, some ⟨true, .rows (.i64 v3)⟩, some ⟨true, .rows (.i64 v4)⟩, some ⟨true, .rows (.lPortValue v9)⟩, some ⟨true, .rows (.lPortValue v10)⟩, some ⟨true, .rows (.i64 v13)⟩, some ⟨true, .rows (.i64 v15)⟩, some ⟨true, .rows (.i64 v16)⟩, some ⟨true, .rows (.lPortValue v21)⟩, some ⟨true, .rows (.lPortValue v22)⟩] (.sc (.bool true)) [some ⟨true, .rows (.i64 v1)⟩, some ⟨true, .rows (.i64 v3)⟩, some ⟨true, .rows (.i64 v4)⟩, some ⟨true, .rows (.lPortValue v9)⟩, some ⟨true, .rows (.lPortValue v10)⟩, some ⟨true, .rows (.i64 v13)⟩, some ⟨true, .rows (.i64 v15)⟩, some ⟨true, .rows (.i64 v16)⟩, some ⟨true, .rows (.lPortValue v21)⟩, some ⟨true, .rows (.lPortValue v22)⟩] :=
  FnOk.sim (o_laws_FnExactDeltaOf_rrrrrrrrrr_ok N) (by
    show g_laws_FnExactDeltaOf_rrrrrrrrrr N v0 v1n v2 v3n v4n v5 v6 v7 v8 v9n v10n v11 v12 v13n v14 v15n v16n v17 v18 v19 v20 v21n v22n v23 v1 v3 v4 v9 v10 v13 v15 v16 v21 v22 (fun b1 => some (AV.sc (SV.bool b1), ([some ⟨true, .rows (.i64 v1)⟩, some ⟨true, .rows (.i64 v3)⟩, some ⟨true, .rows (.i64 v4)⟩, some ⟨true, .rows (.lPortValue v9)⟩, some ⟨true, .rows (.lPortValue v10)⟩, some ⟨true, .rows (.i64 v13)⟩, some ⟨true, .rows (.i64 v15)⟩, some ⟨true, .rows (.i64 v16)⟩, some ⟨true, .rows (.lPortValue v21)⟩, some ⟨true, .rows (.lPortValue v22)⟩] : Hp E))) = _
    exact law_DeltaOf N h1 h3 h4 w5 h9 h10 h13 h15 h16 w17 h21 h22 hN _)

set_option maxRecDepth 100000 in
theorem walk (W : World) {b0 : Nat} (a0 : Value) (a1 : Value) {H : Type} {enc : TypeId × Value → H} {d0 : DataW H} {p0 : List MemPlace} {d1 : DataW H} {p1 : List MemPlace} (h0a : DataW.Trod enc Try.prog W 0 (fun _ => true) true 25 a0 d0 p0) (h1a : DataW.Trod enc Try.prog W 0 (fun _ => true) true 25 a1 d1 p1)
    (c0 : Value.okWide Try.prog W .any b0 25 a0) (c1 : Value.okWide Try.prog W .any b0 25 a1) :
    Calls Try.prog 4 #[a0, a1] W fun e w' => e = .returned (.bool true) ∧ Below W.heap.size W w' := by
  obtain ⟨cs0, eq0, hw0⟩ := okWide_cells (ts := [2, 22, 2, 22, 22, 9, 2, 2, 2, 23, 23, 2]) Try.underlying25 ct0 sz0 c0
  subst eq0
  have k0 := open_arg (n := 6) (ks := [(.p (.int .i64), 2), (.s [.int .i64], 22), (.p (.int .i64), 2), (.s [.int .i64], 22), (.s [.int .i64], 22), (.p .str, 9), (.p (.int .i64), 2), (.p (.int .i64), 2), (.p (.int .i64), 2), (.s [.int .i64, .int .i64], 23), (.s [.int .i64, .int .i64], 23), (.p (.int .i64), 2)]) kt0 h0a (All2.of_map hw0)
  replace k0 : All2 (fun (p : CK2 × TypeId) v => ck2Ok W p.1 v) [(.p (.int .i64), 2), (.s [.int .i64], 22), (.p (.int .i64), 2), (.s [.int .i64], 22), (.s [.int .i64], 22), (.p .str, 9), (.p (.int .i64), 2), (.p (.int .i64), 2), (.p (.int .i64), 2), (.s [.int .i64, .int .i64], 23), (.s [.int .i64, .int .i64], 23), (.p (.int .i64), 2)] cs0 := k0
  obtain ⟨v0, _, ev0, w0, kv0⟩ := c2_int k0
  cases ev0
  obtain ⟨v1, v1n, pe0, u0, _, ev1, h1, r1, en0, rs0, kv1⟩ := c2_slc (E := E) (ctor := B.i64) ri64_ok wi64 rfl (fun _ => rfl) (fun _ => rfl) (fun _ => rfl) kv0
  cases ev1
  obtain ⟨v2, _, ev2, w2, kv2⟩ := c2_int kv1
  cases ev2
  obtain ⟨v3, v3n, pe1, u1, _, ev3, h3, r3, en1, rs1, kv3⟩ := c2_slc (E := E) (ctor := B.i64) ri64_ok wi64 rfl (fun _ => rfl) (fun _ => rfl) (fun _ => rfl) kv2
  cases ev3
  obtain ⟨v4, v4n, pe2, u2, _, ev4, h4, r4, en2, rs2, kv4⟩ := c2_slc (E := E) (ctor := B.i64) ri64_ok wi64 rfl (fun _ => rfl) (fun _ => rfl) (fun _ => rfl) kv3
  cases ev4
  obtain ⟨v5, _, ev5, w5, kv5⟩ := c2_str kv4
  cases ev5
  obtain ⟨v6, _, ev6, w6, kv6⟩ := c2_int kv5
  cases ev6
  obtain ⟨v7, _, ev7, w7, kv7⟩ := c2_int kv6
  cases ev7
  obtain ⟨v8, _, ev8, w8, kv8⟩ := c2_int kv7
  cases ev8
  obtain ⟨v9, v9n, pe3, u3, _, ev9, h9, r9, en3, rs3, kv9⟩ := c2_slc (E := E) (ctor := B.lPortValue) rlPortValue_ok wlPortValue rfl (fun _ => rfl) (fun _ => rfl) (fun _ => rfl) kv8
  cases ev9
  obtain ⟨v10, v10n, pe4, u4, _, ev10, h10, r10, en4, rs4, kv10⟩ := c2_slc (E := E) (ctor := B.lPortValue) rlPortValue_ok wlPortValue rfl (fun _ => rfl) (fun _ => rfl) (fun _ => rfl) kv9
  cases ev10
  obtain ⟨v11, _, ev11, w11, kv11⟩ := c2_int kv10
  cases ev11
  have en0x := c2_nil kv11
  cases en0x
  obtain ⟨cs1, eq1, hw1⟩ := okWide_cells (ts := [2, 22, 2, 22, 22, 9, 2, 2, 2, 23, 23, 2]) Try.underlying25 ct1 sz1 c1
  subst eq1
  have k1 := open_arg (n := 6) (ks := [(.p (.int .i64), 2), (.s [.int .i64], 22), (.p (.int .i64), 2), (.s [.int .i64], 22), (.s [.int .i64], 22), (.p .str, 9), (.p (.int .i64), 2), (.p (.int .i64), 2), (.p (.int .i64), 2), (.s [.int .i64, .int .i64], 23), (.s [.int .i64, .int .i64], 23), (.p (.int .i64), 2)]) kt1 h1a (All2.of_map hw1)
  replace k1 : All2 (fun (p : CK2 × TypeId) v => ck2Ok W p.1 v) [(.p (.int .i64), 2), (.s [.int .i64], 22), (.p (.int .i64), 2), (.s [.int .i64], 22), (.s [.int .i64], 22), (.p .str, 9), (.p (.int .i64), 2), (.p (.int .i64), 2), (.p (.int .i64), 2), (.s [.int .i64, .int .i64], 23), (.s [.int .i64, .int .i64], 23), (.p (.int .i64), 2)] cs1 := k1
  obtain ⟨v12, _, ev12, w12, kv12⟩ := c2_int k1
  cases ev12
  obtain ⟨v13, v13n, pe5, u5, _, ev13, h13, r13, en5, rs5, kv13⟩ := c2_slc (E := E) (ctor := B.i64) ri64_ok wi64 rfl (fun _ => rfl) (fun _ => rfl) (fun _ => rfl) kv12
  cases ev13
  obtain ⟨v14, _, ev14, w14, kv14⟩ := c2_int kv13
  cases ev14
  obtain ⟨v15, v15n, pe6, u6, _, ev15, h15, r15, en6, rs6, kv15⟩ := c2_slc (E := E) (ctor := B.i64) ri64_ok wi64 rfl (fun _ => rfl) (fun _ => rfl) (fun _ => rfl) kv14
  cases ev15
  obtain ⟨v16, v16n, pe7, u7, _, ev16, h16, r16, en7, rs7, kv16⟩ := c2_slc (E := E) (ctor := B.i64) ri64_ok wi64 rfl (fun _ => rfl) (fun _ => rfl) (fun _ => rfl) kv15
  cases ev16
  obtain ⟨v17, _, ev17, w17, kv17⟩ := c2_str kv16
  cases ev17
  obtain ⟨v18, _, ev18, w18, kv18⟩ := c2_int kv17
  cases ev18
  obtain ⟨v19, _, ev19, w19, kv19⟩ := c2_int kv18
  cases ev19
  obtain ⟨v20, _, ev20, w20, kv20⟩ := c2_int kv19
  cases ev20
  obtain ⟨v21, v21n, pe8, u8, _, ev21, h21, r21, en8, rs8, kv21⟩ := c2_slc (E := E) (ctor := B.lPortValue) rlPortValue_ok wlPortValue rfl (fun _ => rfl) (fun _ => rfl) (fun _ => rfl) kv20
  cases ev21
  obtain ⟨v22, v22n, pe9, u9, _, ev22, h22, r22, en9, rs9, kv22⟩ := c2_slc (E := E) (ctor := B.lPortValue) rlPortValue_ok wlPortValue rfl (fun _ => rfl) (fun _ => rfl) (fun _ => rfl) kv21
  cases ev22
  obtain ⟨v23, _, ev23, w23, kv23⟩ := c2_int kv22
  cases ev23
  have en1x := c2_nil kv23
  cases en1x
  have hs := sim (2 ^ 41) (by decide) v0 v1 v2 v3 v4 v5 v6 v7 v8 v9 v10 v11 v12 v13 v14 v15 v16 v17 v18 v19 v20 v21 v22 v23 v1n v3n v4n v9n v10n v13n v15n v16n v21n v22n w0 h1 r1 w2 h3 r3 h4 r4 w5 w6 w7 w8 h9 r9 h10 r10 w11 w12 h13 r13 w14 h15 r15 h16 r16 w17 w18 w19 w20 h21 r21 h22 r22 w23
  have hra : All2 (RA [pe0, pe1, pe2, pe3, pe4, pe5, pe6, pe7, pe8, pe9]) [.agg [.int .i64 v0, .slc 0 none v1n, .int .i64 v2, .slc 1 none v3n, .slc 2 none v4n, .str v5, .int .i64 v6, .int .i64 v7, .int .i64 v8, .slc 3 none v9n, .slc 4 none v10n, .int .i64 v11], .agg [.int .i64 v12, .slc 5 none v13n, .int .i64 v14, .slc 6 none v15n, .slc 7 none v16n, .str v17, .int .i64 v18, .int .i64 v19, .int .i64 v20, .slc 8 none v21n, .slc 9 none v22n, .int .i64 v23]] [Value.agg [.int .i64 v0, u0, .int .i64 v2, u1, u2, .string v5, .int .i64 v6, .int .i64 v7, .int .i64 v8, u3, u4, .int .i64 v11].toArray, Value.agg [.int .i64 v12, u5, .int .i64 v14, u6, u7, .string v17, .int .i64 v18, .int .i64 v19, .int .i64 v20, u8, u9, .int .i64 v23].toArray] := ⟨⟨[.int .i64 v0, u0, .int .i64 v2, u1, u2, .string v5, .int .i64 v6, .int .i64 v7, .int .i64 v8, u3, u4, .int .i64 v11], rfl, rfl, rs0 _ 0 rfl, rfl, rs1 _ 1 rfl, rs2 _ 2 rfl, rfl, rfl, rfl, rfl, rs3 _ 3 rfl, rs4 _ 4 rfl, rfl, trivial⟩, ⟨[.int .i64 v12, u5, .int .i64 v14, u6, u7, .string v17, .int .i64 v18, .int .i64 v19, .int .i64 v20, u8, u9, .int .i64 v23], rfl, rfl, rs5 _ 5 rfl, rfl, rs6 _ 6 rfl, rs7 _ 7 rfl, rfl, rfl, rfl, rfl, rs8 _ 8 rfl, rs9 _ 9 rfl, rfl, trivial⟩, trivial⟩
  have hrh : RH (E := E) [pe0, pe1, pe2, pe3, pe4, pe5, pe6, pe7, pe8, pe9] [some ⟨true, .rows (.i64 v1)⟩, some ⟨true, .rows (.i64 v3)⟩, some ⟨true, .rows (.i64 v4)⟩, some ⟨true, .rows (.lPortValue v9)⟩, some ⟨true, .rows (.lPortValue v10)⟩, some ⟨true, .rows (.i64 v13)⟩, some ⟨true, .rows (.i64 v15)⟩, some ⟨true, .rows (.i64 v16)⟩, some ⟨true, .rows (.lPortValue v21)⟩, some ⟨true, .rows (.lPortValue v22)⟩] W := RH.ofRo (E := E) (bs := ([.i64 v1, .i64 v3, .i64 v4, .lPortValue v9, .lPortValue v10, .i64 v13, .i64 v15, .i64 v16, .lPortValue v21, .lPortValue v22] : List B)) ⟨en0, en1, en2, en3, en4, en5, en6, en7, en8, en9, trivial⟩
  have hro : ∀ i he, nth ([some ⟨true, .rows (.i64 v1)⟩, some ⟨true, .rows (.i64 v3)⟩, some ⟨true, .rows (.i64 v4)⟩, some ⟨true, .rows (.lPortValue v9)⟩, some ⟨true, .rows (.lPortValue v10)⟩, some ⟨true, .rows (.i64 v13)⟩, some ⟨true, .rows (.i64 v15)⟩, some ⟨true, .rows (.i64 v16)⟩, some ⟨true, .rows (.lPortValue v21)⟩, some ⟨true, .rows (.lPortValue v22)⟩] : Hp E) i = some (some he) → he.ro = true := fun i he h => ro_map (E := E) (bs := ([.i64 v1, .i64 v3, .i64 v4, .lPortValue v9, .lPortValue v10, .i64 v13, .i64 v15, .i64 v16, .lPortValue v21, .lPortValue v22] : List B)) h
  exact hs.law hro hra hrh

set_option maxRecDepth 100000 in
theorem lifted (os : Os) (started : os.Started) (H : Type) (enc : TypeId × Value → H) :
    ReturnsInHanded {} Try.checked os 4 .any (Rows.fnExactDeltaOfSpec.pre6 enc Try.prog Try.f4 Rows.fnExactDeltaOfRow.domain false) (Rows.fnExactDeltaOfSpec.post enc Try.prog Try.f4 false true false false) := by
  refine returnsInHanded_of_change_sized (C := Try.checked) own started (by kernel_rfl) Try.func4
    (ChangeSpec.witness6 (enc := enc) (C := Try.checked) false ⟨#[], #[.agg #[.int .i64 0, .slice none 0 0, .int .i64 0, .slice none 0 0, .slice none 0 0, .string ByteArray.empty, .int .i64 0, .int .i64 0, .int .i64 0, .slice none 0 0, .slice none 0 0, .int .i64 0], .agg #[.int .i64 0, .slice none 0 0, .int .i64 0, .slice none 0 0, .slice none 0 0, .string ByteArray.empty, .int .i64 0, .int .i64 0, .int .i64 0, .slice none 0 0, .slice none 0 0, .int .i64 0]], []⟩ 8 (by kernel_rfl) (by kernel_rfl) (by kernel_rfl) (by kernel_rfl)) ?_
  intro W base args ds gs before hval0 hW hcnd hsz0 _
  have hval : ∀ (j : Nat) t v, Try.f4.params[j]? = some t → args[j]? = some v → Value.okWide Try.prog W .any base t v := hval0
  have hW' := hW
  obtain ⟨p, q, hA0, hV, rfl, hfz, hnd⟩ := hW
  have hA : DataW.TrodAll enc Try.prog W 0 (fun _ => true) true Try.f4.params.toList args.toList ds p := hA0
  rw [Try.params4] at hA hval
  obtain ⟨v0, vs0, d0, ds0, p0, q0, hargs, rfl, rfl, h0, r0⟩ := trodAll_cons hA
  obtain ⟨v1, vs1, d1, ds1, p1, q1, rfl, rfl, rfl, h1, r1⟩ := trodAll_cons r0
  obtain ⟨rfl, rfl, rfl⟩ := trodAll_nil r1
  obtain rfl : args = #[v0, v1] := by cases args; simp_all
  obtain ⟨rfl, rfl⟩ := trodVars_none hV
  have lt0 : ∀ x ∈ p0, x.block < W.heap.size := by obtain ⟨m, hm⟩ := h0; exact DataW.trod_lt m _ _ _ hm
  have b0 : Value.okWide Try.prog W .any base 25 v0 := hval 0 25 v0 rfl rfl
  have lt1 : ∀ x ∈ p1, x.block < W.heap.size := by obtain ⟨m, hm⟩ := h1; exact DataW.trod_lt m _ _ _ hm
  have b1 : Value.okWide Try.prog W .any base 25 v1 := hval 1 25 v1 rfl rfl
  clear hA0 hval0 hsz0
  refine (walk W v0 v1 h0 h1 b0 b1).mono fun e W' ⟨he, bel⟩ => ?_
  subst he
  exact ⟨_, rfl, _, _, _, [], _, [], hW', trodAll_mk1 (shut_bool Try.underlying4 _), (trodAll_cons_mk (Below.trod laidOut (by kernel_rfl) (of_decide_eq_true (by kernel_rfl)) h0 bel lt0) (trodAll_cons_mk (Below.trod laidOut (by kernel_rfl) (of_decide_eq_true (by kernel_rfl)) h1 bel lt1) trodAll_mk0)), rfl, bel.frame _, fun h => by cases h⟩

theorem over : Rows.fnExactDeltaOfRow.holds Try.pinned (OpenSpec.ofChange Rows.fnExactDeltaOfSpec) :=
  OpenClaim.holds_of_wide 4 Try.f4 rfl rfl rfl rfl rfl rfl rfl ⟨rfl, rfl, rfl, rfl, rfl⟩ rfl rfl rfl rfl rfl (by kernel_rfl) Try.func4 (by kernel_rfl)
    (of_decide_eq_true (by kernel_rfl)) (by unfold Func.isWrapper; first | (rw [if_pos (by decide +kernel)]; kernel_rfl) | (rw [if_neg (by decide +kernel)]; exact ⟨rfl, rfl⟩))
    (fun os started H enc _ => lifted os started H enc)
end Go.Sa.FnExactDeltaOf
namespace Go.Proofs.Ytaffhdhamfilpaa
theorem fnExactDeltaOf_holds : Rows.FnExactDeltaOfSaid := Go.Sa.FnExactDeltaOf.over
#print axioms fnExactDeltaOf_holds
end Go.Proofs.Ytaffhdhamfilpaa
