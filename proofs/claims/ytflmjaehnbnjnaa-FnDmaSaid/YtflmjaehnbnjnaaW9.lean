import Derived.Test.YtflmjaehnbnjnaaSpec
import Derived.Test.YtflmjaehnbnjnaaPLb
import Derived.Test.YtflmjaehnbnjnaaW8
set_option linter.all false
namespace Go.Sa
open Go Go.Eng Go.Proofs
set_option maxRecDepth 100000
set_option maxHeartbeats 4000000
/-! ### loop.example/g00038/spec.DmaRead -/
abbrev sl_spec_DmaRead : SlotT := [(0, ([8, 9, 10, 11, 12], [8, 9]))]
abbrev J_spec_DmaRead : JT := jn [] [] []
noncomputable def O_spec_DmaRead (N : Nat) : Orc E := addFn 63 (o_spec_l11Dma N) (noFn)
noncomputable def pa_spec_DmaRead__o_spec_l11Dma (N : Nat) (G_spec_l11Dma : ∀ {R : Type} (s : ByteArray) (n : Int) (n1 : Int) (n2 : Int) (n3 : Int) (k : Int → Int → ByteArray → Bool → Bool → (List Int) → (List Int) → Option R), Option R) {R : Type} (args : List AV) (H : Hp E) (K : AV → Hp E → Option R) : Option R :=
 match args, H with
 | [(AV.sc (SV.str s)), (AV.sc (SV.int IntKind.i64 n)), (AV.sc (SV.int IntKind.i64 n1)), (AV.sc (SV.int IntKind.i64 n2)), (AV.sc (SV.int IntKind.i64 n3))], [] => G_spec_l11Dma s n n1 n2 n3 (fun n16 n17 s7 b8 b9 l7 l8 => K (AV.tup [(true, [(SV.int IntKind.i64 n16), (SV.int IntKind.i64 n17), (SV.str (ByteArray.mk (List.toArray []))), (SV.str s7)]), (false, [(SV.slc 0 none b8)]), (false, [(SV.slc 1 none b9)])]) [(some (HE.mk false (HB.rows (B.i64 l7)))), (some (HE.mk false (HB.rows (B.i64 l8))))])
 | _, _ => none
noncomputable def OA_spec_DmaRead (N : Nat) (G_spec_l11Dma : ∀ {R : Type} (s : ByteArray) (n : Int) (n1 : Int) (n2 : Int) (n3 : Int) (k : Int → Int → ByteArray → Bool → Bool → (List Int) → (List Int) → Option R), Option R) : Orc E := addFn 63 (pa_spec_DmaRead__o_spec_l11Dma N G_spec_l11Dma) (noFn)
theorem O_spec_DmaRead_ok (N : Nat) : OrcOk (O_spec_DmaRead N) := addFn_ok (o_spec_l11Dma_ok N) (noFn_ok)
noncomputable def s_spec_DmaRead_0 (N : Nat) {R : Type} (b2 : Bool) (b3 : Bool) (n6 : Int) (n7 : Int) (s2 : ByteArray) (s3 : ByteArray) (n8 : Int) (n9 : Int) (s5 : ByteArray) (l2 : List Int) (l3 : List Int) (n5 : Int) (s4 : ByteArray) (ag : Int → ByteArray → Option R)  (kN : ByteArray → Option R) : Option R :=
 (cond (decide ((n5 < (((List.length l2) : Nat) : Int))))
 (cond ((decide (((0 : Int) ≤ n5))) && (decide ((n5 < (((List.length l2) : Nat) : Int)))))
 (elemK l2 (Int.toNat n5) fun x =>
 (cond ((decide (((0 : Int) ≤ n5))) && (decide ((n5 < (((List.length l2) : Nat) : Int)))))
 (elemK l2 (Int.toNat n5) fun x1 =>
 (cond ((decide (((0 : Int) ≤ n5))) && (decide ((n5 < (((List.length l3) : Nat) : Int)))))
 (elemK l3 (Int.toNat n5) fun x2 =>
 (cond (((decide (((0 : Int) ≤ x))) && (decide ((x ≤ (IntKind.wrap IntKind.i64 (x1 + x2)))))) && (decide (((IntKind.wrap IntKind.i64 (x1 + x2)) ≤ (((ByteArray.size s5) : Nat) : Int)))))
 (cond (Nat.ble ((ByteArray.size s4) + (ByteArray.size (ByteArray.extract s5 (Int.toNat x) (Int.toNat (IntKind.wrap IntKind.i64 (x1 + x2)))))) 9223372036854775807)
 (ag (IntKind.wrap IntKind.i64 (n5 + (1 : Int))) (s4 ++ (ByteArray.extract s5 (Int.toNat x) (Int.toNat (IntKind.wrap IntKind.i64 (x1 + x2))))))
 none)
 none))
 none))
 none))
 none)
 (kN s4))
noncomputable def ga_s_spec_DmaRead_0 (N : Nat) (G_spec_l11Dma : ∀ {R : Type} (s : ByteArray) (n : Int) (n1 : Int) (n2 : Int) (n3 : Int) (k : Int → Int → ByteArray → Bool → Bool → (List Int) → (List Int) → Option R), Option R) {R : Type} (b2 : Bool) (b3 : Bool) (n6 : Int) (n7 : Int) (s2 : ByteArray) (s3 : ByteArray) (n8 : Int) (n9 : Int) (s5 : ByteArray) (l2 : List Int) (l3 : List Int) (n5 : Int) (s4 : ByteArray) (ag : Int → ByteArray → Option R)  (kN : ByteArray → Option R) : Option R :=
 (cond (decide ((n5 < (((List.length l2) : Nat) : Int))))
 (cond ((decide (((0 : Int) ≤ n5))) && (decide ((n5 < (((List.length l2) : Nat) : Int)))))
 (elemK l2 (Int.toNat n5) fun x =>
 (cond ((decide (((0 : Int) ≤ n5))) && (decide ((n5 < (((List.length l2) : Nat) : Int)))))
 (elemK l2 (Int.toNat n5) fun x1 =>
 (cond ((decide (((0 : Int) ≤ n5))) && (decide ((n5 < (((List.length l3) : Nat) : Int)))))
 (elemK l3 (Int.toNat n5) fun x2 =>
 (cond (((decide (((0 : Int) ≤ x))) && (decide ((x ≤ (IntKind.wrap IntKind.i64 (x1 + x2)))))) && (decide (((IntKind.wrap IntKind.i64 (x1 + x2)) ≤ (((ByteArray.size s5) : Nat) : Int)))))
 (cond (Nat.ble ((ByteArray.size s4) + (ByteArray.size (ByteArray.extract s5 (Int.toNat x) (Int.toNat (IntKind.wrap IntKind.i64 (x1 + x2)))))) 9223372036854775807)
 (ag (IntKind.wrap IntKind.i64 (n5 + (1 : Int))) (s4 ++ (ByteArray.extract s5 (Int.toNat x) (Int.toNat (IntKind.wrap IntKind.i64 (x1 + x2))))))
 none)
 none))
 none))
 none))
 none)
 (kN s4))
noncomputable def l_spec_DmaRead_0 (N : Nat) {R : Type} (b2 : Bool) (b3 : Bool) (n6 : Int) (n7 : Int) (s2 : ByteArray) (s3 : ByteArray) (n8 : Int) (n9 : Int) (s5 : ByteArray) (l2 : List Int) (l3 : List Int) (kN : ByteArray → Option R) : Nat → Int → ByteArray → Option R
 | 0, _, _ => none
 | f + 1, n5, s4 => s_spec_DmaRead_0 N b2 b3 n6 n7 s2 s3 n8 n9 s5 l2 l3 n5 s4 (fun n5 s4 => l_spec_DmaRead_0 N b2 b3 n6 n7 s2 s3 n8 n9 s5 l2 l3 kN f n5 s4)  kN
noncomputable def c_spec_DmaRead_0 (N : Nat) {R : Type} (b2 : Bool) (b3 : Bool) (n6 : Int) (n7 : Int) (s2 : ByteArray) (s3 : ByteArray) (n8 : Int) (n9 : Int) (s5 : ByteArray) (l2 : List Int) (l3 : List Int) (n5 : Int) (s4 : ByteArray) (kN : ByteArray → Option R) : Option R := l_spec_DmaRead_0 N b2 b3 n6 n7 s2 s3 n8 n9 s5 l2 l3 kN N n5 s4
theorem ea_se_spec_DmaRead_0 (N : Nat) (G_spec_l11Dma : ∀ {R : Type} (s : ByteArray) (n : Int) (n1 : Int) (n2 : Int) (n3 : Int) (k : Int → Int → ByteArray → Bool → Bool → (List Int) → (List Int) → Option R), Option R) {R : Type} (b2 : Bool) (b3 : Bool) (n6 : Int) (n7 : Int) (s2 : ByteArray) (s3 : ByteArray) (n8 : Int) (n9 : Int) (s5 : ByteArray) (l2 : List Int) (l3 : List Int) (n5 : Int) (s4 : ByteArray) (AG : List (Option AV) → Hp E → Option R) (KL : Ex → List (Option AV) → Hp E → Option R) :
    iterStep (E := E) (OA_spec_DmaRead N G_spec_l11Dma) (fun {R} => LI (noIt) 0 49 sl_spec_DmaRead (R := R)) J_spec_DmaRead 0 49 0 [8, 9, 10, 11, 12] [8, 9] (body Try.f24 0) AG KL [(some (AV.sc (SV.ptr 0 0 0))), (some (AV.sc (SV.ptr 1 0 0))), (some (AV.sc (SV.slc 2 none b2))), (some (AV.sc (SV.slc 3 none b3))), (some (AV.sc (SV.int IntKind.i64 n5)))] [(some (HE.mk false (HB.exp none [(SV.int IntKind.i64 n6), (SV.int IntKind.i64 n7), (SV.str s2), (SV.str s3)]))), (some (HE.mk false (HB.exp none [(SV.int IntKind.i64 n8), (SV.int IntKind.i64 n9), (SV.str s4), (SV.str s5)]))), (some (HE.mk false (HB.rows (B.i64 l2)))), (some (HE.mk false (HB.rows (B.i64 l3))))] =
      ga_s_spec_DmaRead_0 N G_spec_l11Dma b2 b3 n6 n7 s2 s3 n8 n9 s5 l2 l3 n5 s4 (fun n5 s4 => AG [(some (AV.sc (SV.ptr 0 0 0))), (some (AV.sc (SV.ptr 1 0 0))), (some (AV.sc (SV.slc 2 none b2))), (some (AV.sc (SV.slc 3 none b3))), (some (AV.sc (SV.int IntKind.i64 n5)))] [(some (HE.mk false (HB.exp none [(SV.int IntKind.i64 n6), (SV.int IntKind.i64 n7), (SV.str s2), (SV.str s3)]))), (some (HE.mk false (HB.exp none [(SV.int IntKind.i64 n8), (SV.int IntKind.i64 n9), (SV.str s4), (SV.str s5)]))), (some (HE.mk false (HB.rows (B.i64 l2)))), (some (HE.mk false (HB.rows (B.i64 l3))))])  (fun s9 => KL Ex.normal [(some (AV.sc (SV.ptr 0 0 0))), (some (AV.sc (SV.ptr 1 0 0)))] [(some (HE.mk false (HB.exp none [(SV.int IntKind.i64 n6), (SV.int IntKind.i64 n7), (SV.str s2), (SV.str s3)]))), (some (HE.mk false (HB.exp none [(SV.int IntKind.i64 n8), (SV.int IntKind.i64 n9), (SV.str s9), (SV.str s5)])))]) := by kernel_rfl
theorem se_spec_DmaRead_0 (N : Nat) {R : Type} (b2 : Bool) (b3 : Bool) (n6 : Int) (n7 : Int) (s2 : ByteArray) (s3 : ByteArray) (n8 : Int) (n9 : Int) (s5 : ByteArray) (l2 : List Int) (l3 : List Int) (n5 : Int) (s4 : ByteArray) (AG : List (Option AV) → Hp E → Option R) (KL : Ex → List (Option AV) → Hp E → Option R) :
    iterStep (E := E) (O_spec_DmaRead N) (fun {R} => LI (noIt) 0 49 sl_spec_DmaRead (R := R)) J_spec_DmaRead 0 49 0 [8, 9, 10, 11, 12] [8, 9] (body Try.f24 0) AG KL [(some (AV.sc (SV.ptr 0 0 0))), (some (AV.sc (SV.ptr 1 0 0))), (some (AV.sc (SV.slc 2 none b2))), (some (AV.sc (SV.slc 3 none b3))), (some (AV.sc (SV.int IntKind.i64 n5)))] [(some (HE.mk false (HB.exp none [(SV.int IntKind.i64 n6), (SV.int IntKind.i64 n7), (SV.str s2), (SV.str s3)]))), (some (HE.mk false (HB.exp none [(SV.int IntKind.i64 n8), (SV.int IntKind.i64 n9), (SV.str s4), (SV.str s5)]))), (some (HE.mk false (HB.rows (B.i64 l2)))), (some (HE.mk false (HB.rows (B.i64 l3))))] =
      s_spec_DmaRead_0 N b2 b3 n6 n7 s2 s3 n8 n9 s5 l2 l3 n5 s4 (fun n5 s4 => AG [(some (AV.sc (SV.ptr 0 0 0))), (some (AV.sc (SV.ptr 1 0 0))), (some (AV.sc (SV.slc 2 none b2))), (some (AV.sc (SV.slc 3 none b3))), (some (AV.sc (SV.int IntKind.i64 n5)))] [(some (HE.mk false (HB.exp none [(SV.int IntKind.i64 n6), (SV.int IntKind.i64 n7), (SV.str s2), (SV.str s3)]))), (some (HE.mk false (HB.exp none [(SV.int IntKind.i64 n8), (SV.int IntKind.i64 n9), (SV.str s4), (SV.str s5)]))), (some (HE.mk false (HB.rows (B.i64 l2)))), (some (HE.mk false (HB.rows (B.i64 l3))))])  (fun s9 => KL Ex.normal [(some (AV.sc (SV.ptr 0 0 0))), (some (AV.sc (SV.ptr 1 0 0)))] [(some (HE.mk false (HB.exp none [(SV.int IntKind.i64 n6), (SV.int IntKind.i64 n7), (SV.str s2), (SV.str s3)]))), (some (HE.mk false (HB.exp none [(SV.int IntKind.i64 n8), (SV.int IntKind.i64 n9), (SV.str s9), (SV.str s5)])))]) := castPr (by kernel_rfl) (ea_se_spec_DmaRead_0 N (g_spec_l11Dma N) b2 b3 n6 n7 s2 s3 n8 n9 s5 l2 l3 n5 s4 AG KL)
theorem le_spec_DmaRead_0 (N : Nat) {R : Type} (b2 : Bool) (b3 : Bool) (n6 : Int) (n7 : Int) (s2 : ByteArray) (s3 : ByteArray) (n8 : Int) (n9 : Int) (s5 : ByteArray) (l2 : List Int) (l3 : List Int) (KL : Ex → List (Option AV) → Hp E → Option R) : ∀ (f : Nat), ∀ (n5 : Int) (s4 : ByteArray), iterK (E := E) (O_spec_DmaRead N) (fun {R} => LI (noIt) 0 49 sl_spec_DmaRead (R := R)) J_spec_DmaRead 0 49 0 [8, 9, 10, 11, 12] [8, 9] (body Try.f24 0) f [(some (AV.sc (SV.ptr 0 0 0))), (some (AV.sc (SV.ptr 1 0 0))), (some (AV.sc (SV.slc 2 none b2))), (some (AV.sc (SV.slc 3 none b3))), (some (AV.sc (SV.int IntKind.i64 n5)))] [(some (HE.mk false (HB.exp none [(SV.int IntKind.i64 n6), (SV.int IntKind.i64 n7), (SV.str s2), (SV.str s3)]))), (some (HE.mk false (HB.exp none [(SV.int IntKind.i64 n8), (SV.int IntKind.i64 n9), (SV.str s4), (SV.str s5)]))), (some (HE.mk false (HB.rows (B.i64 l2)))), (some (HE.mk false (HB.rows (B.i64 l3))))] KL = l_spec_DmaRead_0 N b2 b3 n6 n7 s2 s3 n8 n9 s5 l2 l3 (fun s9 => KL Ex.normal [(some (AV.sc (SV.ptr 0 0 0))), (some (AV.sc (SV.ptr 1 0 0)))] [(some (HE.mk false (HB.exp none [(SV.int IntKind.i64 n6), (SV.int IntKind.i64 n7), (SV.str s2), (SV.str s3)]))), (some (HE.mk false (HB.exp none [(SV.int IntKind.i64 n8), (SV.int IntKind.i64 n9), (SV.str s9), (SV.str s5)])))]) f n5 s4 := by
  intro f
  induction f with
  | zero => intros; rfl
  | succ f ih =>
    intro n5 s4
    rw [iterK_succ, se_spec_DmaRead_0]
    exact (congrArg (fun z0 => s_spec_DmaRead_0 N b2 b3 n6 n7 s2 s3 n8 n9 s5 l2 l3 n5 s4 z0 (fun s9 => KL Ex.normal [(some (AV.sc (SV.ptr 0 0 0))), (some (AV.sc (SV.ptr 1 0 0)))] [(some (HE.mk false (HB.exp none [(SV.int IntKind.i64 n6), (SV.int IntKind.i64 n7), (SV.str s2), (SV.str s3)]))), (some (HE.mk false (HB.exp none [(SV.int IntKind.i64 n8), (SV.int IntKind.i64 n9), (SV.str s9), (SV.str s5)])))])) (funext fun n5 => funext fun s4 => ih n5 s4))
noncomputable def i_spec_DmaRead_0 (N : Nat) {R : Type} (vs : List (Option AV)) (H : Hp E) (KL : Ex → List (Option AV) → Hp E → Option R) : Option R :=
 match vs, H with
 | [(some (AV.sc (SV.ptr 0 0 0))), (some (AV.sc (SV.ptr 1 0 0))), (some (AV.sc (SV.slc 2 none b2))), (some (AV.sc (SV.slc 3 none b3))), (some (AV.sc (SV.int IntKind.i64 n5)))], [(some (HE.mk false (HB.exp none [(SV.int IntKind.i64 n6), (SV.int IntKind.i64 n7), (SV.str s2), (SV.str s3)]))), (some (HE.mk false (HB.exp none [(SV.int IntKind.i64 n8), (SV.int IntKind.i64 n9), (SV.str s4), (SV.str s5)]))), (some (HE.mk false (HB.rows (B.i64 l2)))), (some (HE.mk false (HB.rows (B.i64 l3))))] => c_spec_DmaRead_0 N b2 b3 n6 n7 s2 s3 n8 n9 s5 l2 l3 n5 s4 (fun s10 => KL Ex.normal [(some (AV.sc (SV.ptr 0 0 0))), (some (AV.sc (SV.ptr 1 0 0)))] [(some (HE.mk false (HB.exp none [(SV.int IntKind.i64 n6), (SV.int IntKind.i64 n7), (SV.str s2), (SV.str s3)]))), (some (HE.mk false (HB.exp none [(SV.int IntKind.i64 n8), (SV.int IntKind.i64 n9), (SV.str s10), (SV.str s5)])))])
 | _, _ => none
noncomputable def IT_spec_DmaRead_0 (N : Nat) : Its E := addIt 0 (i_spec_DmaRead_0 N) (noIt)
theorem IT_spec_DmaRead_0_ok (N : Nat) : ItOk (IT_spec_DmaRead_0 N) 0 49 sl_spec_DmaRead (lsB Try.f24 [0]) :=
  addItB_ok (inner := []) ok (O_spec_DmaRead_ok N) (jn_ok _ _ _) (noIt_ok) rfl (by kernel_rfl) rfl fun vs H KL r h => by
    unfold i_spec_DmaRead_0 at h
    split at h
    · exact ⟨_, (le_spec_DmaRead_0 N _ _ _ _ _ _ _ _ _ _ _ KL N _ _).trans h⟩
    · cases h
noncomputable def g_spec_DmaRead (N : Nat) {R : Type} (s : ByteArray) (n : Int) (n1 : Int) (n2 : Int) (k : Int → Int → ByteArray → ByteArray → Option R) : Option R :=
 (g_spec_l11Dma N s n n1 n2 (1 : Int) fun n3 n4 s1 b b1 l l1 =>
 (c_spec_DmaRead_0 N b b1 (0 : Int) (0 : Int) (ByteArray.mk (List.toArray [])) (ByteArray.mk (List.toArray [])) n3 n4 s1 l l1 (0 : Int) (ByteArray.mk (List.toArray [])) fun s6 =>
 (k n3 n4 s6 s1)))
noncomputable def ga_g_spec_DmaRead (N : Nat) (G_spec_l11Dma : ∀ {R : Type} (s : ByteArray) (n : Int) (n1 : Int) (n2 : Int) (n3 : Int) (k : Int → Int → ByteArray → Bool → Bool → (List Int) → (List Int) → Option R), Option R) {R : Type} (s : ByteArray) (n : Int) (n1 : Int) (n2 : Int) (k : Int → Int → ByteArray → ByteArray → Option R) : Option R :=
 (G_spec_l11Dma s n n1 n2 (1 : Int) fun n3 n4 s1 b b1 l l1 =>
 (c_spec_DmaRead_0 N b b1 (0 : Int) (0 : Int) (ByteArray.mk (List.toArray [])) (ByteArray.mk (List.toArray [])) n3 n4 s1 l l1 (0 : Int) (ByteArray.mk (List.toArray [])) fun s6 =>
 (k n3 n4 s6 s1)))
theorem ea_e_spec_DmaRead (N : Nat) (G_spec_l11Dma : ∀ {R : Type} (s : ByteArray) (n : Int) (n1 : Int) (n2 : Int) (n3 : Int) (k : Int → Int → ByteArray → Bool → Bool → (List Int) → (List Int) → Option R), Option R) {R : Type} (s : ByteArray) (n : Int) (n1 : Int) (n2 : Int) (K : AV → Hp E → Option R) :
    runFnI (E := E) (OA_spec_DmaRead N G_spec_l11Dma) (IT_spec_DmaRead_0 N) sl_spec_DmaRead J_spec_DmaRead Try.f24 [(AV.sc (SV.str s)), (AV.sc (SV.int IntKind.i64 n)), (AV.sc (SV.int IntKind.i64 n1)), (AV.sc (SV.int IntKind.i64 n2))] [] K =
      ga_g_spec_DmaRead N G_spec_l11Dma s n n1 n2 (fun n10 n11 s7 s8 => K (AV.agg [(SV.int IntKind.i64 n10), (SV.int IntKind.i64 n11), (SV.str s7), (SV.str s8)]) []) := by kernel_rfl
theorem e_spec_DmaRead (N : Nat) {R : Type} (s : ByteArray) (n : Int) (n1 : Int) (n2 : Int) (K : AV → Hp E → Option R) :
    runFnI (E := E) (O_spec_DmaRead N) (IT_spec_DmaRead_0 N) sl_spec_DmaRead J_spec_DmaRead Try.f24 [(AV.sc (SV.str s)), (AV.sc (SV.int IntKind.i64 n)), (AV.sc (SV.int IntKind.i64 n1)), (AV.sc (SV.int IntKind.i64 n2))] [] K =
      g_spec_DmaRead N s n n1 n2 (fun n10 n11 s7 s8 => K (AV.agg [(SV.int IntKind.i64 n10), (SV.int IntKind.i64 n11), (SV.str s7), (SV.str s8)]) []) := castPr (by kernel_rfl) (ea_e_spec_DmaRead N (g_spec_l11Dma N) s n n1 n2 K)
noncomputable def o_spec_DmaRead (N : Nat) {R : Type} (args : List AV) (H : Hp E) (K : AV → Hp E → Option R) : Option R :=
 match args, H with
 | [(AV.sc (SV.str s)), (AV.sc (SV.int IntKind.i64 n)), (AV.sc (SV.int IntKind.i64 n1)), (AV.sc (SV.int IntKind.i64 n2))], [] => g_spec_DmaRead N s n n1 n2 (fun n10 n11 s7 s8 => K (AV.agg [(SV.int IntKind.i64 n10), (SV.int IntKind.i64 n11), (SV.str s7), (SV.str s8)]) [])
 | _, _ => none
theorem o_spec_DmaRead_ok (N : Nat) : FnOk E 24 (o_spec_DmaRead N) := by
  intro R args H K r h
  unfold o_spec_DmaRead at h
  dsimp only at h
  split at h
  · exact fnB_ok (ids := [0]) (top := [0]) ok (O_spec_DmaRead_ok N) (jn_ok _ _ _) Try.func24 (by kernel_rfl) (IT := IT_spec_DmaRead_0 N) (sl := sl_spec_DmaRead) (J := J_spec_DmaRead) (K := K) (H := []) (IT_spec_DmaRead_0_ok N) (by kernel_rfl) rfl ((e_spec_DmaRead N _ _ _ _ K).trans h)
  · cases h
end Go.Sa
