import Derived.Test.YtflmjaehnbnjnaaSpec
import Derived.Test.YtflmjaehnbnjnaaPLb
import Derived.Test.YtflmjaehnbnjnaaW7
set_option linter.all false
namespace Go.Sa
open Go Go.Eng Go.Proofs
set_option maxRecDepth 100000
set_option maxHeartbeats 4000000
/-! ### loop.example/g00038/impl.DmaWrite -/
abbrev sl_impl_DmaWrite : SlotT := [(0, ([3, 8, 9, 11, 33, 34, 35], [8, 9, 11]))]
abbrev J_impl_DmaWrite : JT := jn [] [] [(9, [13])]
noncomputable def O_impl_DmaWrite (N : Nat) : Orc E := addFn 64 (o_impl_ydma N) (addFn 54 (o_impl_ybig_w N) (noFn))
noncomputable def pa_impl_DmaWrite__o_impl_ydma (N : Nat) (G_impl_ydma : ∀ {R : Type} (s : ByteArray) (n : Int) (n1 : Int) (n2 : Int) (n3 : Int) (k : Bool → Bool → Int → Int → (List Int) → (List A2i64) → Option R), Option R) {R : Type} (args : List AV) (H : Hp E) (K : AV → Hp E → Option R) : Option R :=
 match args, H with
 | [(AV.sc (SV.str s)), (AV.sc (SV.int IntKind.i64 n)), (AV.sc (SV.int IntKind.i64 n1)), (AV.sc (SV.int IntKind.i64 n2)), (AV.sc (SV.int IntKind.i64 n3))], [] => G_impl_ydma s n n1 n2 n3 (fun b9 b10 n19 n20 l7 l8 => K (AV.tup [(false, [(SV.slc 0 none b9)]), (false, [(SV.slc 1 none b10)]), (true, [(SV.int IntKind.i64 n19), (SV.int IntKind.i64 n20), (SV.str (ByteArray.mk (List.toArray []))), (SV.str (ByteArray.mk (List.toArray [])))])]) [(some (HE.mk false (HB.rows (B.u8 l7)))), (some (HE.mk false (HB.rows (B.aA2i64 l8))))])
 | _, _ => none
noncomputable def pa_impl_DmaWrite__o_impl_ybig_w (N : Nat) (G_impl_ybig_w : ∀ {R : Type} (b : Bool) (l : List ByteArray) (k : Bool → Option R), Option R) {R : Type} (args : List AV) (H : Hp E) (K : AV → Hp E → Option R) : Option R :=
 match args, H with
 | [(AV.sc (SV.slc 0 none b))], [(some (HE.mk false (HB.rows (B.str l))))] => G_impl_ybig_w b l (fun b2 => K (AV.sc (SV.bool b2)) [(some (HE.mk false (HB.rows (B.str l))))])
 | _, _ => none
noncomputable def OA_impl_DmaWrite (N : Nat) (G_impl_ydma : ∀ {R : Type} (s : ByteArray) (n : Int) (n1 : Int) (n2 : Int) (n3 : Int) (k : Bool → Bool → Int → Int → (List Int) → (List A2i64) → Option R), Option R) (G_impl_ybig_w : ∀ {R : Type} (b : Bool) (l : List ByteArray) (k : Bool → Option R), Option R) : Orc E := addFn 64 (pa_impl_DmaWrite__o_impl_ydma N G_impl_ydma) (addFn 54 (pa_impl_DmaWrite__o_impl_ybig_w N G_impl_ybig_w) (noFn))
theorem O_impl_DmaWrite_ok (N : Nat) : OrcOk (O_impl_DmaWrite N) := addFn_ok (o_impl_ydma_ok N) (addFn_ok (o_impl_ybig_w_ok N) (noFn_ok))
noncomputable def s_impl_DmaWrite_0 (N : Nat) {R : Type} (b3 : Bool) (b4 : Bool) (n4 : Int) (n6 : Int) (n7 : Int) (s3 : ByteArray) (s4 : ByteArray) (n8 : Int) (n9 : Int) (s5 : ByteArray) (s6 : ByteArray) (l3 : List A2i64) (s2 : ByteArray) (n5 : Int) (l2 : List Int) (ag : ByteArray → Int → (List Int) → Option R)  (kN : (List Int) → Option R) : Option R :=
 (cond (decide ((n5 < n4)))
 (cond ((decide (((0 : Int) ≤ n5))) && (decide ((n5 < (((List.length l3) : Nat) : Int)))))
 (elemK l3 (Int.toNat n5) fun x =>
 (cond (((decide (((0 : Int) ≤ (A2i64.f0 x)))) && (decide (((A2i64.f0 x) ≤ (IntKind.wrap IntKind.i64 ((A2i64.f0 x) + (A2i64.f1 x))))))) && (decide (((IntKind.wrap IntKind.i64 ((A2i64.f0 x) + (A2i64.f1 x))) ≤ (((List.length l2) : Nat) : Int)))))
 (cond ((decide (((0 : Int) ≤ (A2i64.f1 x)))) && (decide (((A2i64.f1 x) ≤ (((ByteArray.size s2) : Nat) : Int)))))
 (cond (Nat.ble (List.length (Go.Eng.ofBytes (ByteArray.extract s2 0 (Int.toNat (A2i64.f1 x))))) ((Int.toNat (IntKind.wrap IntKind.i64 ((A2i64.f0 x) + (A2i64.f1 x)))) - (Int.toNat (A2i64.f0 x))))
 (cond (Nat.ble ((Int.toNat (A2i64.f0 x)) + (List.length (Go.Eng.ofBytes (ByteArray.extract s2 0 (Int.toNat (A2i64.f1 x)))))) (List.length l2))
 (cond (((decide (((0 : Int) ≤ (A2i64.f1 x)))) && (decide (((A2i64.f1 x) ≤ (((ByteArray.size s2) : Nat) : Int))))) && (decide (((((ByteArray.size s2) : Nat) : Int) ≤ (((ByteArray.size s2) : Nat) : Int)))))
 (ag (ByteArray.extract s2 (Int.toNat (A2i64.f1 x)) (Int.toNat (((ByteArray.size s2) : Nat) : Int))) (IntKind.wrap IntKind.i64 (n5 + (1 : Int))) (Go.Eng.splice l2 (Int.toNat (A2i64.f0 x)) (Go.Eng.ofBytes (ByteArray.extract s2 0 (Int.toNat (A2i64.f1 x))))))
 none)
 none)
 none)
 none)
 none))
 none)
 (kN l2))
noncomputable def ga_s_impl_DmaWrite_0 (N : Nat) (G_impl_ydma : ∀ {R : Type} (s : ByteArray) (n : Int) (n1 : Int) (n2 : Int) (n3 : Int) (k : Bool → Bool → Int → Int → (List Int) → (List A2i64) → Option R), Option R) (G_impl_ybig_w : ∀ {R : Type} (b : Bool) (l : List ByteArray) (k : Bool → Option R), Option R) {R : Type} (b3 : Bool) (b4 : Bool) (n4 : Int) (n6 : Int) (n7 : Int) (s3 : ByteArray) (s4 : ByteArray) (n8 : Int) (n9 : Int) (s5 : ByteArray) (s6 : ByteArray) (l3 : List A2i64) (s2 : ByteArray) (n5 : Int) (l2 : List Int) (ag : ByteArray → Int → (List Int) → Option R)  (kN : (List Int) → Option R) : Option R :=
 (cond (decide ((n5 < n4)))
 (cond ((decide (((0 : Int) ≤ n5))) && (decide ((n5 < (((List.length l3) : Nat) : Int)))))
 (elemK l3 (Int.toNat n5) fun x =>
 (cond (((decide (((0 : Int) ≤ (A2i64.f0 x)))) && (decide (((A2i64.f0 x) ≤ (IntKind.wrap IntKind.i64 ((A2i64.f0 x) + (A2i64.f1 x))))))) && (decide (((IntKind.wrap IntKind.i64 ((A2i64.f0 x) + (A2i64.f1 x))) ≤ (((List.length l2) : Nat) : Int)))))
 (cond ((decide (((0 : Int) ≤ (A2i64.f1 x)))) && (decide (((A2i64.f1 x) ≤ (((ByteArray.size s2) : Nat) : Int)))))
 (cond (Nat.ble (List.length (Go.Eng.ofBytes (ByteArray.extract s2 0 (Int.toNat (A2i64.f1 x))))) ((Int.toNat (IntKind.wrap IntKind.i64 ((A2i64.f0 x) + (A2i64.f1 x)))) - (Int.toNat (A2i64.f0 x))))
 (cond (Nat.ble ((Int.toNat (A2i64.f0 x)) + (List.length (Go.Eng.ofBytes (ByteArray.extract s2 0 (Int.toNat (A2i64.f1 x)))))) (List.length l2))
 (cond (((decide (((0 : Int) ≤ (A2i64.f1 x)))) && (decide (((A2i64.f1 x) ≤ (((ByteArray.size s2) : Nat) : Int))))) && (decide (((((ByteArray.size s2) : Nat) : Int) ≤ (((ByteArray.size s2) : Nat) : Int)))))
 (ag (ByteArray.extract s2 (Int.toNat (A2i64.f1 x)) (Int.toNat (((ByteArray.size s2) : Nat) : Int))) (IntKind.wrap IntKind.i64 (n5 + (1 : Int))) (Go.Eng.splice l2 (Int.toNat (A2i64.f0 x)) (Go.Eng.ofBytes (ByteArray.extract s2 0 (Int.toNat (A2i64.f1 x))))))
 none)
 none)
 none)
 none)
 none))
 none)
 (kN l2))
noncomputable def l_impl_DmaWrite_0 (N : Nat) {R : Type} (b3 : Bool) (b4 : Bool) (n4 : Int) (n6 : Int) (n7 : Int) (s3 : ByteArray) (s4 : ByteArray) (n8 : Int) (n9 : Int) (s5 : ByteArray) (s6 : ByteArray) (l3 : List A2i64) (kN : (List Int) → Option R) : Nat → ByteArray → Int → (List Int) → Option R
 | 0, _, _, _ => none
 | f + 1, s2, n5, l2 => s_impl_DmaWrite_0 N b3 b4 n4 n6 n7 s3 s4 n8 n9 s5 s6 l3 s2 n5 l2 (fun s2 n5 l2 => l_impl_DmaWrite_0 N b3 b4 n4 n6 n7 s3 s4 n8 n9 s5 s6 l3 kN f s2 n5 l2)  kN
noncomputable def c_impl_DmaWrite_0 (N : Nat) {R : Type} (b3 : Bool) (b4 : Bool) (n4 : Int) (n6 : Int) (n7 : Int) (s3 : ByteArray) (s4 : ByteArray) (n8 : Int) (n9 : Int) (s5 : ByteArray) (s6 : ByteArray) (l3 : List A2i64) (s2 : ByteArray) (n5 : Int) (l2 : List Int) (kN : (List Int) → Option R) : Option R := l_impl_DmaWrite_0 N b3 b4 n4 n6 n7 s3 s4 n8 n9 s5 s6 l3 kN N s2 n5 l2
theorem ea_se_impl_DmaWrite_0 (N : Nat) (G_impl_ydma : ∀ {R : Type} (s : ByteArray) (n : Int) (n1 : Int) (n2 : Int) (n3 : Int) (k : Bool → Bool → Int → Int → (List Int) → (List A2i64) → Option R), Option R) (G_impl_ybig_w : ∀ {R : Type} (b : Bool) (l : List ByteArray) (k : Bool → Option R), Option R) {R : Type} (b3 : Bool) (b4 : Bool) (n4 : Int) (n6 : Int) (n7 : Int) (s3 : ByteArray) (s4 : ByteArray) (n8 : Int) (n9 : Int) (s5 : ByteArray) (s6 : ByteArray) (l3 : List A2i64) (s2 : ByteArray) (n5 : Int) (l2 : List Int) (AG : List (Option AV) → Hp E → Option R) (KL : Ex → List (Option AV) → Hp E → Option R) :
    iterStep (E := E) (OA_impl_DmaWrite N G_impl_ydma G_impl_ybig_w) (fun {R} => LI (noIt) 0 62 sl_impl_DmaWrite (R := R)) J_impl_DmaWrite 0 62 0 [3, 8, 9, 11, 33, 34, 35] [8, 9, 11] (body Try.f20 0) AG KL [(some (AV.sc (SV.str s2))), (some (AV.sc (SV.ptr 0 0 0))), (some (AV.sc (SV.slc 1 none b3))), (some (AV.sc (SV.ptr 2 0 0))), (some (AV.sc (SV.slc 3 none b4))), (some (AV.sc (SV.int IntKind.i64 n4))), (some (AV.sc (SV.int IntKind.i64 n5)))] [(some (HE.mk false (HB.exp none [(SV.int IntKind.i64 n6), (SV.int IntKind.i64 n7), (SV.str s3), (SV.str s4)]))), (some (HE.mk false (HB.rows (B.u8 l2)))), (some (HE.mk false (HB.exp none [(SV.int IntKind.i64 n8), (SV.int IntKind.i64 n9), (SV.str s5), (SV.str s6)]))), (some (HE.mk false (HB.rows (B.aA2i64 l3))))] =
      ga_s_impl_DmaWrite_0 N G_impl_ydma G_impl_ybig_w b3 b4 n4 n6 n7 s3 s4 n8 n9 s5 s6 l3 s2 n5 l2 (fun s2 n5 l2 => AG [(some (AV.sc (SV.str s2))), (some (AV.sc (SV.ptr 0 0 0))), (some (AV.sc (SV.slc 1 none b3))), (some (AV.sc (SV.ptr 2 0 0))), (some (AV.sc (SV.slc 3 none b4))), (some (AV.sc (SV.int IntKind.i64 n4))), (some (AV.sc (SV.int IntKind.i64 n5)))] [(some (HE.mk false (HB.exp none [(SV.int IntKind.i64 n6), (SV.int IntKind.i64 n7), (SV.str s3), (SV.str s4)]))), (some (HE.mk false (HB.rows (B.u8 l2)))), (some (HE.mk false (HB.exp none [(SV.int IntKind.i64 n8), (SV.int IntKind.i64 n9), (SV.str s5), (SV.str s6)]))), (some (HE.mk false (HB.rows (B.aA2i64 l3))))])  (fun l5 => KL Ex.normal [(some (AV.sc (SV.ptr 0 0 0))), (some (AV.sc (SV.slc 1 none b3))), (some (AV.sc (SV.ptr 2 0 0)))] [(some (HE.mk false (HB.exp none [(SV.int IntKind.i64 n6), (SV.int IntKind.i64 n7), (SV.str s3), (SV.str s4)]))), (some (HE.mk false (HB.rows (B.u8 l5)))), (some (HE.mk false (HB.exp none [(SV.int IntKind.i64 n8), (SV.int IntKind.i64 n9), (SV.str s5), (SV.str s6)])))]) := by kernel_rfl
theorem se_impl_DmaWrite_0 (N : Nat) {R : Type} (b3 : Bool) (b4 : Bool) (n4 : Int) (n6 : Int) (n7 : Int) (s3 : ByteArray) (s4 : ByteArray) (n8 : Int) (n9 : Int) (s5 : ByteArray) (s6 : ByteArray) (l3 : List A2i64) (s2 : ByteArray) (n5 : Int) (l2 : List Int) (AG : List (Option AV) → Hp E → Option R) (KL : Ex → List (Option AV) → Hp E → Option R) :
    iterStep (E := E) (O_impl_DmaWrite N) (fun {R} => LI (noIt) 0 62 sl_impl_DmaWrite (R := R)) J_impl_DmaWrite 0 62 0 [3, 8, 9, 11, 33, 34, 35] [8, 9, 11] (body Try.f20 0) AG KL [(some (AV.sc (SV.str s2))), (some (AV.sc (SV.ptr 0 0 0))), (some (AV.sc (SV.slc 1 none b3))), (some (AV.sc (SV.ptr 2 0 0))), (some (AV.sc (SV.slc 3 none b4))), (some (AV.sc (SV.int IntKind.i64 n4))), (some (AV.sc (SV.int IntKind.i64 n5)))] [(some (HE.mk false (HB.exp none [(SV.int IntKind.i64 n6), (SV.int IntKind.i64 n7), (SV.str s3), (SV.str s4)]))), (some (HE.mk false (HB.rows (B.u8 l2)))), (some (HE.mk false (HB.exp none [(SV.int IntKind.i64 n8), (SV.int IntKind.i64 n9), (SV.str s5), (SV.str s6)]))), (some (HE.mk false (HB.rows (B.aA2i64 l3))))] =
      s_impl_DmaWrite_0 N b3 b4 n4 n6 n7 s3 s4 n8 n9 s5 s6 l3 s2 n5 l2 (fun s2 n5 l2 => AG [(some (AV.sc (SV.str s2))), (some (AV.sc (SV.ptr 0 0 0))), (some (AV.sc (SV.slc 1 none b3))), (some (AV.sc (SV.ptr 2 0 0))), (some (AV.sc (SV.slc 3 none b4))), (some (AV.sc (SV.int IntKind.i64 n4))), (some (AV.sc (SV.int IntKind.i64 n5)))] [(some (HE.mk false (HB.exp none [(SV.int IntKind.i64 n6), (SV.int IntKind.i64 n7), (SV.str s3), (SV.str s4)]))), (some (HE.mk false (HB.rows (B.u8 l2)))), (some (HE.mk false (HB.exp none [(SV.int IntKind.i64 n8), (SV.int IntKind.i64 n9), (SV.str s5), (SV.str s6)]))), (some (HE.mk false (HB.rows (B.aA2i64 l3))))])  (fun l5 => KL Ex.normal [(some (AV.sc (SV.ptr 0 0 0))), (some (AV.sc (SV.slc 1 none b3))), (some (AV.sc (SV.ptr 2 0 0)))] [(some (HE.mk false (HB.exp none [(SV.int IntKind.i64 n6), (SV.int IntKind.i64 n7), (SV.str s3), (SV.str s4)]))), (some (HE.mk false (HB.rows (B.u8 l5)))), (some (HE.mk false (HB.exp none [(SV.int IntKind.i64 n8), (SV.int IntKind.i64 n9), (SV.str s5), (SV.str s6)])))]) := castPr (by kernel_rfl) (ea_se_impl_DmaWrite_0 N (g_impl_ydma N) (g_impl_ybig_w N) b3 b4 n4 n6 n7 s3 s4 n8 n9 s5 s6 l3 s2 n5 l2 AG KL)
theorem le_impl_DmaWrite_0 (N : Nat) {R : Type} (b3 : Bool) (b4 : Bool) (n4 : Int) (n6 : Int) (n7 : Int) (s3 : ByteArray) (s4 : ByteArray) (n8 : Int) (n9 : Int) (s5 : ByteArray) (s6 : ByteArray) (l3 : List A2i64) (KL : Ex → List (Option AV) → Hp E → Option R) : ∀ (f : Nat), ∀ (s2 : ByteArray) (n5 : Int) (l2 : List Int), iterK (E := E) (O_impl_DmaWrite N) (fun {R} => LI (noIt) 0 62 sl_impl_DmaWrite (R := R)) J_impl_DmaWrite 0 62 0 [3, 8, 9, 11, 33, 34, 35] [8, 9, 11] (body Try.f20 0) f [(some (AV.sc (SV.str s2))), (some (AV.sc (SV.ptr 0 0 0))), (some (AV.sc (SV.slc 1 none b3))), (some (AV.sc (SV.ptr 2 0 0))), (some (AV.sc (SV.slc 3 none b4))), (some (AV.sc (SV.int IntKind.i64 n4))), (some (AV.sc (SV.int IntKind.i64 n5)))] [(some (HE.mk false (HB.exp none [(SV.int IntKind.i64 n6), (SV.int IntKind.i64 n7), (SV.str s3), (SV.str s4)]))), (some (HE.mk false (HB.rows (B.u8 l2)))), (some (HE.mk false (HB.exp none [(SV.int IntKind.i64 n8), (SV.int IntKind.i64 n9), (SV.str s5), (SV.str s6)]))), (some (HE.mk false (HB.rows (B.aA2i64 l3))))] KL = l_impl_DmaWrite_0 N b3 b4 n4 n6 n7 s3 s4 n8 n9 s5 s6 l3 (fun l5 => KL Ex.normal [(some (AV.sc (SV.ptr 0 0 0))), (some (AV.sc (SV.slc 1 none b3))), (some (AV.sc (SV.ptr 2 0 0)))] [(some (HE.mk false (HB.exp none [(SV.int IntKind.i64 n6), (SV.int IntKind.i64 n7), (SV.str s3), (SV.str s4)]))), (some (HE.mk false (HB.rows (B.u8 l5)))), (some (HE.mk false (HB.exp none [(SV.int IntKind.i64 n8), (SV.int IntKind.i64 n9), (SV.str s5), (SV.str s6)])))]) f s2 n5 l2 := by
  intro f
  induction f with
  | zero => intros; rfl
  | succ f ih =>
    intro s2 n5 l2
    rw [iterK_succ, se_impl_DmaWrite_0]
    exact (congrArg (fun z0 => s_impl_DmaWrite_0 N b3 b4 n4 n6 n7 s3 s4 n8 n9 s5 s6 l3 s2 n5 l2 z0 (fun l5 => KL Ex.normal [(some (AV.sc (SV.ptr 0 0 0))), (some (AV.sc (SV.slc 1 none b3))), (some (AV.sc (SV.ptr 2 0 0)))] [(some (HE.mk false (HB.exp none [(SV.int IntKind.i64 n6), (SV.int IntKind.i64 n7), (SV.str s3), (SV.str s4)]))), (some (HE.mk false (HB.rows (B.u8 l5)))), (some (HE.mk false (HB.exp none [(SV.int IntKind.i64 n8), (SV.int IntKind.i64 n9), (SV.str s5), (SV.str s6)])))])) (funext fun s2 => funext fun n5 => funext fun l2 => ih s2 n5 l2))
noncomputable def i_impl_DmaWrite_0 (N : Nat) {R : Type} (vs : List (Option AV)) (H : Hp E) (KL : Ex → List (Option AV) → Hp E → Option R) : Option R :=
 match vs, H with
 | [(some (AV.sc (SV.str s2))), (some (AV.sc (SV.ptr 0 0 0))), (some (AV.sc (SV.slc 1 none b3))), (some (AV.sc (SV.ptr 2 0 0))), (some (AV.sc (SV.slc 3 none b4))), (some (AV.sc (SV.int IntKind.i64 n4))), (some (AV.sc (SV.int IntKind.i64 n5)))], [(some (HE.mk false (HB.exp none [(SV.int IntKind.i64 n6), (SV.int IntKind.i64 n7), (SV.str s3), (SV.str s4)]))), (some (HE.mk false (HB.rows (B.u8 l2)))), (some (HE.mk false (HB.exp none [(SV.int IntKind.i64 n8), (SV.int IntKind.i64 n9), (SV.str s5), (SV.str s6)]))), (some (HE.mk false (HB.rows (B.aA2i64 l3))))] => c_impl_DmaWrite_0 N b3 b4 n4 n6 n7 s3 s4 n8 n9 s5 s6 l3 s2 n5 l2 (fun l6 => KL Ex.normal [(some (AV.sc (SV.ptr 0 0 0))), (some (AV.sc (SV.slc 1 none b3))), (some (AV.sc (SV.ptr 2 0 0)))] [(some (HE.mk false (HB.exp none [(SV.int IntKind.i64 n6), (SV.int IntKind.i64 n7), (SV.str s3), (SV.str s4)]))), (some (HE.mk false (HB.rows (B.u8 l6)))), (some (HE.mk false (HB.exp none [(SV.int IntKind.i64 n8), (SV.int IntKind.i64 n9), (SV.str s5), (SV.str s6)])))])
 | _, _ => none
noncomputable def IT_impl_DmaWrite_0 (N : Nat) : Its E := addIt 0 (i_impl_DmaWrite_0 N) (noIt)
theorem IT_impl_DmaWrite_0_ok (N : Nat) : ItOk (IT_impl_DmaWrite_0 N) 0 62 sl_impl_DmaWrite (lsB Try.f20 [0]) :=
  addItB_ok (inner := []) ok (O_impl_DmaWrite_ok N) (jn_ok _ _ _) (noIt_ok) rfl (by kernel_rfl) rfl fun vs H KL r h => by
    unfold i_impl_DmaWrite_0 at h
    split at h
    · exact ⟨_, (le_impl_DmaWrite_0 N _ _ _ _ _ _ _ _ _ _ _ _ KL N _ _ _).trans h⟩
    · cases h
noncomputable def g_impl_DmaWrite (N : Nat) {R : Type} (s : ByteArray) (n : Int) (n1 : Int) (s1 : ByteArray) (k : Int → Int → ByteArray → Option R) : Option R :=
 (g_impl_ybig_w N false [s, s1] fun b =>
 (cond b
 (k (2 : Int) (0 : Int) (ByteArray.mk (List.toArray [])))
 (g_impl_ydma N s n n1 (((ByteArray.size s1) : Nat) : Int) (2 : Int) fun b1 b2 n2 n3 l l1 =>
 (cond (n2 != (0 : Int))
 (k n2 n3 (ByteArray.mk (List.toArray [])))
 (c_impl_DmaWrite_0 N b1 b2 (((List.length l1) : Nat) : Int) (0 : Int) (0 : Int) (ByteArray.mk (List.toArray [])) (ByteArray.mk (List.toArray [])) n2 n3 (ByteArray.mk (List.toArray [])) (ByteArray.mk (List.toArray [])) l1 s1 (0 : Int) l fun l4 =>
 (cond (Nat.ble (0 + (List.length l4)) (List.length l4))
 (k n2 n3 (Go.Eng.toBytes (Go.Eng.seg l4 0 (List.length l4))))
 none))))))
noncomputable def ga_g_impl_DmaWrite (N : Nat) (G_impl_ydma : ∀ {R : Type} (s : ByteArray) (n : Int) (n1 : Int) (n2 : Int) (n3 : Int) (k : Bool → Bool → Int → Int → (List Int) → (List A2i64) → Option R), Option R) (G_impl_ybig_w : ∀ {R : Type} (b : Bool) (l : List ByteArray) (k : Bool → Option R), Option R) {R : Type} (s : ByteArray) (n : Int) (n1 : Int) (s1 : ByteArray) (k : Int → Int → ByteArray → Option R) : Option R :=
 (G_impl_ybig_w false [s, s1] fun b =>
 (cond b
 (k (2 : Int) (0 : Int) (ByteArray.mk (List.toArray [])))
 (G_impl_ydma s n n1 (((ByteArray.size s1) : Nat) : Int) (2 : Int) fun b1 b2 n2 n3 l l1 =>
 (cond (n2 != (0 : Int))
 (k n2 n3 (ByteArray.mk (List.toArray [])))
 (c_impl_DmaWrite_0 N b1 b2 (((List.length l1) : Nat) : Int) (0 : Int) (0 : Int) (ByteArray.mk (List.toArray [])) (ByteArray.mk (List.toArray [])) n2 n3 (ByteArray.mk (List.toArray [])) (ByteArray.mk (List.toArray [])) l1 s1 (0 : Int) l fun l4 =>
 (cond (Nat.ble (0 + (List.length l4)) (List.length l4))
 (k n2 n3 (Go.Eng.toBytes (Go.Eng.seg l4 0 (List.length l4))))
 none))))))
theorem ea_e_impl_DmaWrite (N : Nat) (G_impl_ydma : ∀ {R : Type} (s : ByteArray) (n : Int) (n1 : Int) (n2 : Int) (n3 : Int) (k : Bool → Bool → Int → Int → (List Int) → (List A2i64) → Option R), Option R) (G_impl_ybig_w : ∀ {R : Type} (b : Bool) (l : List ByteArray) (k : Bool → Option R), Option R) {R : Type} (s : ByteArray) (n : Int) (n1 : Int) (s1 : ByteArray) (K : AV → Hp E → Option R) :
    runFnI (E := E) (OA_impl_DmaWrite N G_impl_ydma G_impl_ybig_w) (IT_impl_DmaWrite_0 N) sl_impl_DmaWrite J_impl_DmaWrite Try.f20 [(AV.sc (SV.str s)), (AV.sc (SV.int IntKind.i64 n)), (AV.sc (SV.int IntKind.i64 n1)), (AV.sc (SV.str s1))] [] K =
      ga_g_impl_DmaWrite N G_impl_ydma G_impl_ybig_w s n n1 s1 (fun n10 n11 s7 => K (AV.agg [(SV.int IntKind.i64 n10), (SV.int IntKind.i64 n11), (SV.str (ByteArray.mk (List.toArray []))), (SV.str s7)]) []) := by kernel_rfl
theorem e_impl_DmaWrite (N : Nat) {R : Type} (s : ByteArray) (n : Int) (n1 : Int) (s1 : ByteArray) (K : AV → Hp E → Option R) :
    runFnI (E := E) (O_impl_DmaWrite N) (IT_impl_DmaWrite_0 N) sl_impl_DmaWrite J_impl_DmaWrite Try.f20 [(AV.sc (SV.str s)), (AV.sc (SV.int IntKind.i64 n)), (AV.sc (SV.int IntKind.i64 n1)), (AV.sc (SV.str s1))] [] K =
      g_impl_DmaWrite N s n n1 s1 (fun n10 n11 s7 => K (AV.agg [(SV.int IntKind.i64 n10), (SV.int IntKind.i64 n11), (SV.str (ByteArray.mk (List.toArray []))), (SV.str s7)]) []) := castPr (by kernel_rfl) (ea_e_impl_DmaWrite N (g_impl_ydma N) (g_impl_ybig_w N) s n n1 s1 K)
noncomputable def o_impl_DmaWrite (N : Nat) {R : Type} (args : List AV) (H : Hp E) (K : AV → Hp E → Option R) : Option R :=
 match args, H with
 | [(AV.sc (SV.str s)), (AV.sc (SV.int IntKind.i64 n)), (AV.sc (SV.int IntKind.i64 n1)), (AV.sc (SV.str s1))], [] => g_impl_DmaWrite N s n n1 s1 (fun n10 n11 s7 => K (AV.agg [(SV.int IntKind.i64 n10), (SV.int IntKind.i64 n11), (SV.str (ByteArray.mk (List.toArray []))), (SV.str s7)]) [])
 | _, _ => none
theorem o_impl_DmaWrite_ok (N : Nat) : FnOk E 20 (o_impl_DmaWrite N) := by
  intro R args H K r h
  unfold o_impl_DmaWrite at h
  dsimp only at h
  split at h
  · exact fnB_ok (ids := [0]) (top := [0]) ok (O_impl_DmaWrite_ok N) (jn_ok _ _ _) Try.func20 (by kernel_rfl) (IT := IT_impl_DmaWrite_0 N) (sl := sl_impl_DmaWrite) (J := J_impl_DmaWrite) (K := K) (H := []) (IT_impl_DmaWrite_0_ok N) (by kernel_rfl) rfl ((e_impl_DmaWrite N _ _ _ _ K).trans h)
  · cases h
/-! ### loop.example/g00038/laws.lwHas -/
abbrev sl_laws_lwHas_r : SlotT := [(0, ([0, 1, 5], [4]))]
abbrev J_laws_lwHas_r : JT := jn [] [] []
noncomputable def O_laws_lwHas_r (N : Nat) : Orc E := noFn
theorem O_laws_lwHas_r_ok (N : Nat) : OrcOk (O_laws_lwHas_r N) := noFn_ok
noncomputable def s_laws_lwHas_r_0 (N : Nat) {R : Type} (b1 : Bool) (n1 : Int) (l1 : List Int) (n2 : Int) (ag : Int → Option R)  (kR : Option R) (kN : Option R) : Option R :=
 (cond (decide ((n2 < (((List.length l1) : Nat) : Int))))
 (cond ((decide (((0 : Int) ≤ n2))) && (decide ((n2 < (((List.length l1) : Nat) : Int)))))
 (elemK l1 (Int.toNat n2) fun x =>
 (cond (x == n1)
 kR
 (ag (IntKind.wrap IntKind.i64 (n2 + (1 : Int))))))
 none)
 kN)
noncomputable def l_laws_lwHas_r_0 (N : Nat) {R : Type} (b1 : Bool) (n1 : Int) (l1 : List Int) (kR : Option R) (kN : Option R) : Nat → Int → Option R
 | 0, _ => none
 | f + 1, n2 => s_laws_lwHas_r_0 N b1 n1 l1 n2 (fun n2 => l_laws_lwHas_r_0 N b1 n1 l1 kR kN f n2)  kR kN
noncomputable def c_laws_lwHas_r_0 (N : Nat) {R : Type} (b1 : Bool) (n1 : Int) (l1 : List Int) (n2 : Int) (kR : Option R) (kN : Option R) : Option R := l_laws_lwHas_r_0 N b1 n1 l1 kR kN N n2
theorem se_laws_lwHas_r_0 (N : Nat) {R : Type} (b1 : Bool) (n1 : Int) (l1 : List Int) (n2 : Int) (AG : List (Option AV) → Hp E → Option R) (KL : Ex → List (Option AV) → Hp E → Option R) :
    iterStep (E := E) (O_laws_lwHas_r N) (fun {R} => LI (noIt) 1 18 sl_laws_lwHas_r (R := R)) J_laws_lwHas_r 1 18 0 [0, 1, 5] [4] (body Try.f21 0) AG KL [(some (AV.sc (SV.slc 0 none b1))), (some (AV.sc (SV.int IntKind.i64 n1))), (some (AV.sc (SV.int IntKind.i64 n2)))] [(some (HE.mk true (HB.rows (B.i64 l1))))] =
      s_laws_lwHas_r_0 N b1 n1 l1 n2 (fun n2 => AG [(some (AV.sc (SV.slc 0 none b1))), (some (AV.sc (SV.int IntKind.i64 n1))), (some (AV.sc (SV.int IntKind.i64 n2)))] [(some (HE.mk true (HB.rows (B.i64 l1))))])  (KL Ex.ret [(some (AV.sc (SV.bool true)))] [(some (HE.mk true (HB.rows (B.i64 l1))))]) (KL Ex.normal [none] [(some (HE.mk true (HB.rows (B.i64 l1))))]) := by kernel_rfl
theorem le_laws_lwHas_r_0 (N : Nat) {R : Type} (b1 : Bool) (n1 : Int) (l1 : List Int) (KL : Ex → List (Option AV) → Hp E → Option R) : ∀ (f : Nat), ∀ (n2 : Int), iterK (E := E) (O_laws_lwHas_r N) (fun {R} => LI (noIt) 1 18 sl_laws_lwHas_r (R := R)) J_laws_lwHas_r 1 18 0 [0, 1, 5] [4] (body Try.f21 0) f [(some (AV.sc (SV.slc 0 none b1))), (some (AV.sc (SV.int IntKind.i64 n1))), (some (AV.sc (SV.int IntKind.i64 n2)))] [(some (HE.mk true (HB.rows (B.i64 l1))))] KL = l_laws_lwHas_r_0 N b1 n1 l1 (KL Ex.ret [(some (AV.sc (SV.bool true)))] [(some (HE.mk true (HB.rows (B.i64 l1))))]) (KL Ex.normal [none] [(some (HE.mk true (HB.rows (B.i64 l1))))]) f n2 := by
  intro f
  induction f with
  | zero => intros; rfl
  | succ f ih =>
    intro n2
    rw [iterK_succ, se_laws_lwHas_r_0]
    exact (congrArg (fun z0 => s_laws_lwHas_r_0 N b1 n1 l1 n2 z0 (KL Ex.ret [(some (AV.sc (SV.bool true)))] [(some (HE.mk true (HB.rows (B.i64 l1))))]) (KL Ex.normal [none] [(some (HE.mk true (HB.rows (B.i64 l1))))])) (funext fun n2 => ih n2))
noncomputable def i_laws_lwHas_r_0 (N : Nat) {R : Type} (vs : List (Option AV)) (H : Hp E) (KL : Ex → List (Option AV) → Hp E → Option R) : Option R :=
 match vs, H with
 | [(some (AV.sc (SV.slc 0 none b1))), (some (AV.sc (SV.int IntKind.i64 n1))), (some (AV.sc (SV.int IntKind.i64 n2)))], [(some (HE.mk true (HB.rows (B.i64 l1))))] => c_laws_lwHas_r_0 N b1 n1 l1 n2 (KL Ex.ret [(some (AV.sc (SV.bool true)))] [(some (HE.mk true (HB.rows (B.i64 l1))))]) (KL Ex.normal [none] [(some (HE.mk true (HB.rows (B.i64 l1))))])
 | _, _ => none
noncomputable def IT_laws_lwHas_r_0 (N : Nat) : Its E := addIt 0 (i_laws_lwHas_r_0 N) (noIt)
theorem IT_laws_lwHas_r_0_ok (N : Nat) : ItOk (IT_laws_lwHas_r_0 N) 1 18 sl_laws_lwHas_r (lsB Try.f21 [0]) :=
  addItB_ok (inner := []) ok (O_laws_lwHas_r_ok N) (jn_ok _ _ _) (noIt_ok) rfl (by kernel_rfl) rfl fun vs H KL r h => by
    unfold i_laws_lwHas_r_0 at h
    split at h
    · exact ⟨_, (le_laws_lwHas_r_0 N _ _ _ KL N _).trans h⟩
    · cases h
noncomputable def g_laws_lwHas_r (N : Nat) {R : Type} (b : Bool) (n : Int) (l : List Int) (k : Bool → Option R) : Option R :=
 (c_laws_lwHas_r_0 N b n l (0 : Int) (
 (k true)) (
 (k false)))
theorem e_laws_lwHas_r (N : Nat) {R : Type} (b : Bool) (n : Int) (l : List Int) (K : AV → Hp E → Option R) :
    runFnI (E := E) (O_laws_lwHas_r N) (IT_laws_lwHas_r_0 N) sl_laws_lwHas_r J_laws_lwHas_r Try.f21 [(AV.sc (SV.slc 0 none b)), (AV.sc (SV.int IntKind.i64 n))] [(some (HE.mk true (HB.rows (B.i64 l))))] K =
      g_laws_lwHas_r N b n l (fun b2 => K (AV.sc (SV.bool b2)) [(some (HE.mk true (HB.rows (B.i64 l))))]) := by kernel_rfl
noncomputable def o_laws_lwHas_r (N : Nat) {R : Type} (args : List AV) (H : Hp E) (K : AV → Hp E → Option R) : Option R :=
 match args, H with
 | [(AV.sc (SV.slc 0 none b)), (AV.sc (SV.int IntKind.i64 n))], [(some (HE.mk true (HB.rows (B.i64 l))))] => g_laws_lwHas_r N b n l (fun b2 => K (AV.sc (SV.bool b2)) [(some (HE.mk true (HB.rows (B.i64 l))))])
 | _, _ => none
theorem o_laws_lwHas_r_ok (N : Nat) : FnOk E 21 (o_laws_lwHas_r N) := by
  intro R args H K r h
  unfold o_laws_lwHas_r at h
  dsimp only at h
  split at h
  · exact fnB_ok (ids := [0]) (top := [0]) ok (O_laws_lwHas_r_ok N) (jn_ok _ _ _) Try.func21 (by kernel_rfl) (IT := IT_laws_lwHas_r_0 N) (sl := sl_laws_lwHas_r) (J := J_laws_lwHas_r) (K := K) (H := [(some (HE.mk true (HB.rows (B.i64 _))))]) (IT_laws_lwHas_r_0_ok N) (by kernel_rfl) rfl ((e_laws_lwHas_r N _ _ _ K).trans h)
  · cases h
/-! ### loop.example/g00038/laws.lwFrame -/
abbrev sl_laws_lwFrame : SlotT := []
abbrev J_laws_lwFrame : JT := jn [(1, [(14, .b)])] [] []
noncomputable def O_laws_lwFrame (N : Nat) : Orc E := noFn
theorem O_laws_lwFrame_ok (N : Nat) : OrcOk (O_laws_lwFrame N) := noFn_ok
noncomputable def g_laws_lwFrame (N : Nat) {R : Type} (s : ByteArray) (n : Int) (k : ByteArray → Option R) : Option R :=
 (oK (cond (decide ((n < (0 : Int))))
 (some true)
 (some (decide (((IntKind.wrap IntKind.i64 ((IntKind.wrap IntKind.i64 (n + (1 : Int))) * (256 : Int))) > (((ByteArray.size s) : Nat) : Int)))))) fun j =>
 (cond j
 (k (ByteArray.mk (List.toArray [])))
 (cond (((decide (((0 : Int) ≤ (IntKind.wrap IntKind.i64 (n * (256 : Int)))))) && (decide (((IntKind.wrap IntKind.i64 (n * (256 : Int))) ≤ (IntKind.wrap IntKind.i64 ((IntKind.wrap IntKind.i64 (n + (1 : Int))) * (256 : Int))))))) && (decide (((IntKind.wrap IntKind.i64 ((IntKind.wrap IntKind.i64 (n + (1 : Int))) * (256 : Int))) ≤ (((ByteArray.size s) : Nat) : Int)))))
 (k (ByteArray.extract s (Int.toNat (IntKind.wrap IntKind.i64 (n * (256 : Int)))) (Int.toNat (IntKind.wrap IntKind.i64 ((IntKind.wrap IntKind.i64 (n + (1 : Int))) * (256 : Int))))))
 none)))
theorem e_laws_lwFrame (N : Nat) {R : Type} (s : ByteArray) (n : Int) (K : AV → Hp E → Option R) :
    runFnI (E := E) (O_laws_lwFrame N) (noIt) sl_laws_lwFrame J_laws_lwFrame Try.f22 [(AV.sc (SV.str s)), (AV.sc (SV.int IntKind.i64 n))] [] K =
      g_laws_lwFrame N s n (fun s1 => K (AV.sc (SV.str s1)) []) := by kernel_rfl
noncomputable def o_laws_lwFrame (N : Nat) {R : Type} (args : List AV) (H : Hp E) (K : AV → Hp E → Option R) : Option R :=
 match args, H with
 | [(AV.sc (SV.str s)), (AV.sc (SV.int IntKind.i64 n))], [] => g_laws_lwFrame N s n (fun s1 => K (AV.sc (SV.str s1)) [])
 | _, _ => none
theorem o_laws_lwFrame_ok (N : Nat) : FnOk E 22 (o_laws_lwFrame N) := by
  intro R args H K r h
  unfold o_laws_lwFrame at h
  dsimp only at h
  split at h
  · exact fnB_ok (ids := []) (top := []) ok (O_laws_lwFrame_ok N) (jn_ok _ _ _) Try.func22 (by kernel_rfl) (IT := noIt) (sl := sl_laws_lwFrame) (J := J_laws_lwFrame) (K := K) (H := []) (noIt_ok) (by kernel_rfl) rfl ((e_laws_lwFrame N _ _ K).trans h)
  · cases h
/-! ### loop.example/g00038/impl.DmaRead -/
abbrev sl_impl_DmaRead : SlotT := [(0, ([8, 9, 11, 31, 32, 33], [8, 9, 11]))]
abbrev J_impl_DmaRead : JT := jn [] [] []
noncomputable def O_impl_DmaRead (N : Nat) : Orc E := addFn 64 (o_impl_ydma N) (addFn 54 (o_impl_ybig_w N) (noFn))
noncomputable def pa_impl_DmaRead__o_impl_ydma (N : Nat) (G_impl_ydma : ∀ {R : Type} (s : ByteArray) (n : Int) (n1 : Int) (n2 : Int) (n3 : Int) (k : Bool → Bool → Int → Int → (List Int) → (List A2i64) → Option R), Option R) {R : Type} (args : List AV) (H : Hp E) (K : AV → Hp E → Option R) : Option R :=
 match args, H with
 | [(AV.sc (SV.str s)), (AV.sc (SV.int IntKind.i64 n)), (AV.sc (SV.int IntKind.i64 n1)), (AV.sc (SV.int IntKind.i64 n2)), (AV.sc (SV.int IntKind.i64 n3))], [] => G_impl_ydma s n n1 n2 n3 (fun b9 b10 n19 n20 l7 l8 => K (AV.tup [(false, [(SV.slc 0 none b9)]), (false, [(SV.slc 1 none b10)]), (true, [(SV.int IntKind.i64 n19), (SV.int IntKind.i64 n20), (SV.str (ByteArray.mk (List.toArray []))), (SV.str (ByteArray.mk (List.toArray [])))])]) [(some (HE.mk false (HB.rows (B.u8 l7)))), (some (HE.mk false (HB.rows (B.aA2i64 l8))))])
 | _, _ => none
noncomputable def pa_impl_DmaRead__o_impl_ybig_w (N : Nat) (G_impl_ybig_w : ∀ {R : Type} (b : Bool) (l : List ByteArray) (k : Bool → Option R), Option R) {R : Type} (args : List AV) (H : Hp E) (K : AV → Hp E → Option R) : Option R :=
 match args, H with
 | [(AV.sc (SV.slc 0 none b))], [(some (HE.mk false (HB.rows (B.str l))))] => G_impl_ybig_w b l (fun b2 => K (AV.sc (SV.bool b2)) [(some (HE.mk false (HB.rows (B.str l))))])
 | _, _ => none
noncomputable def OA_impl_DmaRead (N : Nat) (G_impl_ydma : ∀ {R : Type} (s : ByteArray) (n : Int) (n1 : Int) (n2 : Int) (n3 : Int) (k : Bool → Bool → Int → Int → (List Int) → (List A2i64) → Option R), Option R) (G_impl_ybig_w : ∀ {R : Type} (b : Bool) (l : List ByteArray) (k : Bool → Option R), Option R) : Orc E := addFn 64 (pa_impl_DmaRead__o_impl_ydma N G_impl_ydma) (addFn 54 (pa_impl_DmaRead__o_impl_ybig_w N G_impl_ybig_w) (noFn))
theorem O_impl_DmaRead_ok (N : Nat) : OrcOk (O_impl_DmaRead N) := addFn_ok (o_impl_ydma_ok N) (addFn_ok (o_impl_ybig_w_ok N) (noFn_ok))
noncomputable def s_impl_DmaRead_0 (N : Nat) {R : Type} (b3 : Bool) (b4 : Bool) (n5 : Int) (n7 : Int) (n8 : Int) (s1 : ByteArray) (s2 : ByteArray) (l2 : List Int) (n9 : Int) (n10 : Int) (s4 : ByteArray) (l3 : List A2i64) (n6 : Int) (s3 : ByteArray) (ag : Int → ByteArray → Option R)  (kN : ByteArray → Option R) : Option R :=
 (cond (decide ((n6 < n5)))
 (cond ((decide (((0 : Int) ≤ n6))) && (decide ((n6 < (((List.length l3) : Nat) : Int)))))
 (elemK l3 (Int.toNat n6) fun x =>
 (cond (((decide (((0 : Int) ≤ (A2i64.f0 x)))) && (decide (((A2i64.f0 x) ≤ (IntKind.wrap IntKind.i64 ((A2i64.f0 x) + (A2i64.f1 x))))))) && (decide (((IntKind.wrap IntKind.i64 ((A2i64.f0 x) + (A2i64.f1 x))) ≤ (((List.length l2) : Nat) : Int)))))
 (cond (Nat.ble ((Int.toNat (A2i64.f0 x)) + ((Int.toNat (IntKind.wrap IntKind.i64 ((A2i64.f0 x) + (A2i64.f1 x)))) - (Int.toNat (A2i64.f0 x)))) (List.length l2))
 (cond (Nat.ble ((ByteArray.size s3) + (ByteArray.size (Go.Eng.toBytes (Go.Eng.seg l2 (Int.toNat (A2i64.f0 x)) ((Int.toNat (IntKind.wrap IntKind.i64 ((A2i64.f0 x) + (A2i64.f1 x)))) - (Int.toNat (A2i64.f0 x))))))) 9223372036854775807)
 (ag (IntKind.wrap IntKind.i64 (n6 + (1 : Int))) (s3 ++ (Go.Eng.toBytes (Go.Eng.seg l2 (Int.toNat (A2i64.f0 x)) ((Int.toNat (IntKind.wrap IntKind.i64 ((A2i64.f0 x) + (A2i64.f1 x)))) - (Int.toNat (A2i64.f0 x)))))))
 none)
 none)
 none))
 none)
 (kN s3))
noncomputable def ga_s_impl_DmaRead_0 (N : Nat) (G_impl_ydma : ∀ {R : Type} (s : ByteArray) (n : Int) (n1 : Int) (n2 : Int) (n3 : Int) (k : Bool → Bool → Int → Int → (List Int) → (List A2i64) → Option R), Option R) (G_impl_ybig_w : ∀ {R : Type} (b : Bool) (l : List ByteArray) (k : Bool → Option R), Option R) {R : Type} (b3 : Bool) (b4 : Bool) (n5 : Int) (n7 : Int) (n8 : Int) (s1 : ByteArray) (s2 : ByteArray) (l2 : List Int) (n9 : Int) (n10 : Int) (s4 : ByteArray) (l3 : List A2i64) (n6 : Int) (s3 : ByteArray) (ag : Int → ByteArray → Option R)  (kN : ByteArray → Option R) : Option R :=
 (cond (decide ((n6 < n5)))
 (cond ((decide (((0 : Int) ≤ n6))) && (decide ((n6 < (((List.length l3) : Nat) : Int)))))
 (elemK l3 (Int.toNat n6) fun x =>
 (cond (((decide (((0 : Int) ≤ (A2i64.f0 x)))) && (decide (((A2i64.f0 x) ≤ (IntKind.wrap IntKind.i64 ((A2i64.f0 x) + (A2i64.f1 x))))))) && (decide (((IntKind.wrap IntKind.i64 ((A2i64.f0 x) + (A2i64.f1 x))) ≤ (((List.length l2) : Nat) : Int)))))
 (cond (Nat.ble ((Int.toNat (A2i64.f0 x)) + ((Int.toNat (IntKind.wrap IntKind.i64 ((A2i64.f0 x) + (A2i64.f1 x)))) - (Int.toNat (A2i64.f0 x)))) (List.length l2))
 (cond (Nat.ble ((ByteArray.size s3) + (ByteArray.size (Go.Eng.toBytes (Go.Eng.seg l2 (Int.toNat (A2i64.f0 x)) ((Int.toNat (IntKind.wrap IntKind.i64 ((A2i64.f0 x) + (A2i64.f1 x)))) - (Int.toNat (A2i64.f0 x))))))) 9223372036854775807)
 (ag (IntKind.wrap IntKind.i64 (n6 + (1 : Int))) (s3 ++ (Go.Eng.toBytes (Go.Eng.seg l2 (Int.toNat (A2i64.f0 x)) ((Int.toNat (IntKind.wrap IntKind.i64 ((A2i64.f0 x) + (A2i64.f1 x)))) - (Int.toNat (A2i64.f0 x)))))))
 none)
 none)
 none))
 none)
 (kN s3))
noncomputable def l_impl_DmaRead_0 (N : Nat) {R : Type} (b3 : Bool) (b4 : Bool) (n5 : Int) (n7 : Int) (n8 : Int) (s1 : ByteArray) (s2 : ByteArray) (l2 : List Int) (n9 : Int) (n10 : Int) (s4 : ByteArray) (l3 : List A2i64) (kN : ByteArray → Option R) : Nat → Int → ByteArray → Option R
 | 0, _, _ => none
 | f + 1, n6, s3 => s_impl_DmaRead_0 N b3 b4 n5 n7 n8 s1 s2 l2 n9 n10 s4 l3 n6 s3 (fun n6 s3 => l_impl_DmaRead_0 N b3 b4 n5 n7 n8 s1 s2 l2 n9 n10 s4 l3 kN f n6 s3)  kN
noncomputable def c_impl_DmaRead_0 (N : Nat) {R : Type} (b3 : Bool) (b4 : Bool) (n5 : Int) (n7 : Int) (n8 : Int) (s1 : ByteArray) (s2 : ByteArray) (l2 : List Int) (n9 : Int) (n10 : Int) (s4 : ByteArray) (l3 : List A2i64) (n6 : Int) (s3 : ByteArray) (kN : ByteArray → Option R) : Option R := l_impl_DmaRead_0 N b3 b4 n5 n7 n8 s1 s2 l2 n9 n10 s4 l3 kN N n6 s3
theorem ea_se_impl_DmaRead_0 (N : Nat) (G_impl_ydma : ∀ {R : Type} (s : ByteArray) (n : Int) (n1 : Int) (n2 : Int) (n3 : Int) (k : Bool → Bool → Int → Int → (List Int) → (List A2i64) → Option R), Option R) (G_impl_ybig_w : ∀ {R : Type} (b : Bool) (l : List ByteArray) (k : Bool → Option R), Option R) {R : Type} (b3 : Bool) (b4 : Bool) (n5 : Int) (n7 : Int) (n8 : Int) (s1 : ByteArray) (s2 : ByteArray) (l2 : List Int) (n9 : Int) (n10 : Int) (s4 : ByteArray) (l3 : List A2i64) (n6 : Int) (s3 : ByteArray) (AG : List (Option AV) → Hp E → Option R) (KL : Ex → List (Option AV) → Hp E → Option R) :
    iterStep (E := E) (OA_impl_DmaRead N G_impl_ydma G_impl_ybig_w) (fun {R} => LI (noIt) 0 56 sl_impl_DmaRead (R := R)) J_impl_DmaRead 0 56 0 [8, 9, 11, 31, 32, 33] [8, 9, 11] (body Try.f23 0) AG KL [(some (AV.sc (SV.ptr 0 0 0))), (some (AV.sc (SV.slc 1 none b3))), (some (AV.sc (SV.ptr 2 0 0))), (some (AV.sc (SV.slc 3 none b4))), (some (AV.sc (SV.int IntKind.i64 n5))), (some (AV.sc (SV.int IntKind.i64 n6)))] [(some (HE.mk false (HB.exp none [(SV.int IntKind.i64 n7), (SV.int IntKind.i64 n8), (SV.str s1), (SV.str s2)]))), (some (HE.mk false (HB.rows (B.u8 l2)))), (some (HE.mk false (HB.exp none [(SV.int IntKind.i64 n9), (SV.int IntKind.i64 n10), (SV.str s3), (SV.str s4)]))), (some (HE.mk false (HB.rows (B.aA2i64 l3))))] =
      ga_s_impl_DmaRead_0 N G_impl_ydma G_impl_ybig_w b3 b4 n5 n7 n8 s1 s2 l2 n9 n10 s4 l3 n6 s3 (fun n6 s3 => AG [(some (AV.sc (SV.ptr 0 0 0))), (some (AV.sc (SV.slc 1 none b3))), (some (AV.sc (SV.ptr 2 0 0))), (some (AV.sc (SV.slc 3 none b4))), (some (AV.sc (SV.int IntKind.i64 n5))), (some (AV.sc (SV.int IntKind.i64 n6)))] [(some (HE.mk false (HB.exp none [(SV.int IntKind.i64 n7), (SV.int IntKind.i64 n8), (SV.str s1), (SV.str s2)]))), (some (HE.mk false (HB.rows (B.u8 l2)))), (some (HE.mk false (HB.exp none [(SV.int IntKind.i64 n9), (SV.int IntKind.i64 n10), (SV.str s3), (SV.str s4)]))), (some (HE.mk false (HB.rows (B.aA2i64 l3))))])  (fun s8 => KL Ex.normal [(some (AV.sc (SV.ptr 0 0 0))), (some (AV.sc (SV.slc 1 none b3))), (some (AV.sc (SV.ptr 2 0 0)))] [(some (HE.mk false (HB.exp none [(SV.int IntKind.i64 n7), (SV.int IntKind.i64 n8), (SV.str s1), (SV.str s2)]))), (some (HE.mk false (HB.rows (B.u8 l2)))), (some (HE.mk false (HB.exp none [(SV.int IntKind.i64 n9), (SV.int IntKind.i64 n10), (SV.str s8), (SV.str s4)])))]) := by kernel_rfl
theorem se_impl_DmaRead_0 (N : Nat) {R : Type} (b3 : Bool) (b4 : Bool) (n5 : Int) (n7 : Int) (n8 : Int) (s1 : ByteArray) (s2 : ByteArray) (l2 : List Int) (n9 : Int) (n10 : Int) (s4 : ByteArray) (l3 : List A2i64) (n6 : Int) (s3 : ByteArray) (AG : List (Option AV) → Hp E → Option R) (KL : Ex → List (Option AV) → Hp E → Option R) :
    iterStep (E := E) (O_impl_DmaRead N) (fun {R} => LI (noIt) 0 56 sl_impl_DmaRead (R := R)) J_impl_DmaRead 0 56 0 [8, 9, 11, 31, 32, 33] [8, 9, 11] (body Try.f23 0) AG KL [(some (AV.sc (SV.ptr 0 0 0))), (some (AV.sc (SV.slc 1 none b3))), (some (AV.sc (SV.ptr 2 0 0))), (some (AV.sc (SV.slc 3 none b4))), (some (AV.sc (SV.int IntKind.i64 n5))), (some (AV.sc (SV.int IntKind.i64 n6)))] [(some (HE.mk false (HB.exp none [(SV.int IntKind.i64 n7), (SV.int IntKind.i64 n8), (SV.str s1), (SV.str s2)]))), (some (HE.mk false (HB.rows (B.u8 l2)))), (some (HE.mk false (HB.exp none [(SV.int IntKind.i64 n9), (SV.int IntKind.i64 n10), (SV.str s3), (SV.str s4)]))), (some (HE.mk false (HB.rows (B.aA2i64 l3))))] =
      s_impl_DmaRead_0 N b3 b4 n5 n7 n8 s1 s2 l2 n9 n10 s4 l3 n6 s3 (fun n6 s3 => AG [(some (AV.sc (SV.ptr 0 0 0))), (some (AV.sc (SV.slc 1 none b3))), (some (AV.sc (SV.ptr 2 0 0))), (some (AV.sc (SV.slc 3 none b4))), (some (AV.sc (SV.int IntKind.i64 n5))), (some (AV.sc (SV.int IntKind.i64 n6)))] [(some (HE.mk false (HB.exp none [(SV.int IntKind.i64 n7), (SV.int IntKind.i64 n8), (SV.str s1), (SV.str s2)]))), (some (HE.mk false (HB.rows (B.u8 l2)))), (some (HE.mk false (HB.exp none [(SV.int IntKind.i64 n9), (SV.int IntKind.i64 n10), (SV.str s3), (SV.str s4)]))), (some (HE.mk false (HB.rows (B.aA2i64 l3))))])  (fun s8 => KL Ex.normal [(some (AV.sc (SV.ptr 0 0 0))), (some (AV.sc (SV.slc 1 none b3))), (some (AV.sc (SV.ptr 2 0 0)))] [(some (HE.mk false (HB.exp none [(SV.int IntKind.i64 n7), (SV.int IntKind.i64 n8), (SV.str s1), (SV.str s2)]))), (some (HE.mk false (HB.rows (B.u8 l2)))), (some (HE.mk false (HB.exp none [(SV.int IntKind.i64 n9), (SV.int IntKind.i64 n10), (SV.str s8), (SV.str s4)])))]) := castPr (by kernel_rfl) (ea_se_impl_DmaRead_0 N (g_impl_ydma N) (g_impl_ybig_w N) b3 b4 n5 n7 n8 s1 s2 l2 n9 n10 s4 l3 n6 s3 AG KL)
theorem le_impl_DmaRead_0 (N : Nat) {R : Type} (b3 : Bool) (b4 : Bool) (n5 : Int) (n7 : Int) (n8 : Int) (s1 : ByteArray) (s2 : ByteArray) (l2 : List Int) (n9 : Int) (n10 : Int) (s4 : ByteArray) (l3 : List A2i64) (KL : Ex → List (Option AV) → Hp E → Option R) : ∀ (f : Nat), ∀ (n6 : Int) (s3 : ByteArray), iterK (E := E) (O_impl_DmaRead N) (fun {R} => LI (noIt) 0 56 sl_impl_DmaRead (R := R)) J_impl_DmaRead 0 56 0 [8, 9, 11, 31, 32, 33] [8, 9, 11] (body Try.f23 0) f [(some (AV.sc (SV.ptr 0 0 0))), (some (AV.sc (SV.slc 1 none b3))), (some (AV.sc (SV.ptr 2 0 0))), (some (AV.sc (SV.slc 3 none b4))), (some (AV.sc (SV.int IntKind.i64 n5))), (some (AV.sc (SV.int IntKind.i64 n6)))] [(some (HE.mk false (HB.exp none [(SV.int IntKind.i64 n7), (SV.int IntKind.i64 n8), (SV.str s1), (SV.str s2)]))), (some (HE.mk false (HB.rows (B.u8 l2)))), (some (HE.mk false (HB.exp none [(SV.int IntKind.i64 n9), (SV.int IntKind.i64 n10), (SV.str s3), (SV.str s4)]))), (some (HE.mk false (HB.rows (B.aA2i64 l3))))] KL = l_impl_DmaRead_0 N b3 b4 n5 n7 n8 s1 s2 l2 n9 n10 s4 l3 (fun s8 => KL Ex.normal [(some (AV.sc (SV.ptr 0 0 0))), (some (AV.sc (SV.slc 1 none b3))), (some (AV.sc (SV.ptr 2 0 0)))] [(some (HE.mk false (HB.exp none [(SV.int IntKind.i64 n7), (SV.int IntKind.i64 n8), (SV.str s1), (SV.str s2)]))), (some (HE.mk false (HB.rows (B.u8 l2)))), (some (HE.mk false (HB.exp none [(SV.int IntKind.i64 n9), (SV.int IntKind.i64 n10), (SV.str s8), (SV.str s4)])))]) f n6 s3 := by
  intro f
  induction f with
  | zero => intros; rfl
  | succ f ih =>
    intro n6 s3
    rw [iterK_succ, se_impl_DmaRead_0]
    exact (congrArg (fun z0 => s_impl_DmaRead_0 N b3 b4 n5 n7 n8 s1 s2 l2 n9 n10 s4 l3 n6 s3 z0 (fun s8 => KL Ex.normal [(some (AV.sc (SV.ptr 0 0 0))), (some (AV.sc (SV.slc 1 none b3))), (some (AV.sc (SV.ptr 2 0 0)))] [(some (HE.mk false (HB.exp none [(SV.int IntKind.i64 n7), (SV.int IntKind.i64 n8), (SV.str s1), (SV.str s2)]))), (some (HE.mk false (HB.rows (B.u8 l2)))), (some (HE.mk false (HB.exp none [(SV.int IntKind.i64 n9), (SV.int IntKind.i64 n10), (SV.str s8), (SV.str s4)])))])) (funext fun n6 => funext fun s3 => ih n6 s3))
noncomputable def i_impl_DmaRead_0 (N : Nat) {R : Type} (vs : List (Option AV)) (H : Hp E) (KL : Ex → List (Option AV) → Hp E → Option R) : Option R :=
 match vs, H with
 | [(some (AV.sc (SV.ptr 0 0 0))), (some (AV.sc (SV.slc 1 none b3))), (some (AV.sc (SV.ptr 2 0 0))), (some (AV.sc (SV.slc 3 none b4))), (some (AV.sc (SV.int IntKind.i64 n5))), (some (AV.sc (SV.int IntKind.i64 n6)))], [(some (HE.mk false (HB.exp none [(SV.int IntKind.i64 n7), (SV.int IntKind.i64 n8), (SV.str s1), (SV.str s2)]))), (some (HE.mk false (HB.rows (B.u8 l2)))), (some (HE.mk false (HB.exp none [(SV.int IntKind.i64 n9), (SV.int IntKind.i64 n10), (SV.str s3), (SV.str s4)]))), (some (HE.mk false (HB.rows (B.aA2i64 l3))))] => c_impl_DmaRead_0 N b3 b4 n5 n7 n8 s1 s2 l2 n9 n10 s4 l3 n6 s3 (fun s9 => KL Ex.normal [(some (AV.sc (SV.ptr 0 0 0))), (some (AV.sc (SV.slc 1 none b3))), (some (AV.sc (SV.ptr 2 0 0)))] [(some (HE.mk false (HB.exp none [(SV.int IntKind.i64 n7), (SV.int IntKind.i64 n8), (SV.str s1), (SV.str s2)]))), (some (HE.mk false (HB.rows (B.u8 l2)))), (some (HE.mk false (HB.exp none [(SV.int IntKind.i64 n9), (SV.int IntKind.i64 n10), (SV.str s9), (SV.str s4)])))])
 | _, _ => none
noncomputable def IT_impl_DmaRead_0 (N : Nat) : Its E := addIt 0 (i_impl_DmaRead_0 N) (noIt)
theorem IT_impl_DmaRead_0_ok (N : Nat) : ItOk (IT_impl_DmaRead_0 N) 0 56 sl_impl_DmaRead (lsB Try.f23 [0]) :=
  addItB_ok (inner := []) ok (O_impl_DmaRead_ok N) (jn_ok _ _ _) (noIt_ok) rfl (by kernel_rfl) rfl fun vs H KL r h => by
    unfold i_impl_DmaRead_0 at h
    split at h
    · exact ⟨_, (le_impl_DmaRead_0 N _ _ _ _ _ _ _ _ _ _ _ _ KL N _ _).trans h⟩
    · cases h
noncomputable def g_impl_DmaRead (N : Nat) {R : Type} (s : ByteArray) (n : Int) (n1 : Int) (n2 : Int) (k : Int → Int → ByteArray → ByteArray → Option R) : Option R :=
 (g_impl_ybig_w N false [s] fun b =>
 (cond b
 (k (2 : Int) (0 : Int) (ByteArray.mk (List.toArray [])) (ByteArray.mk (List.toArray [])))
 (g_impl_ydma N s n n1 n2 (1 : Int) fun b1 b2 n3 n4 l l1 =>
 (cond (n3 != (0 : Int))
 (k n3 n4 (ByteArray.mk (List.toArray [])) (ByteArray.mk (List.toArray [])))
 (c_impl_DmaRead_0 N b1 b2 (((List.length l1) : Nat) : Int) (0 : Int) (0 : Int) (ByteArray.mk (List.toArray [])) (ByteArray.mk (List.toArray [])) l n3 n4 (ByteArray.mk (List.toArray [])) l1 (0 : Int) (ByteArray.mk (List.toArray [])) fun s5 =>
 (cond (Nat.ble (0 + (List.length l)) (List.length l))
 (k n3 n4 s5 (Go.Eng.toBytes (Go.Eng.seg l 0 (List.length l))))
 none))))))
noncomputable def ga_g_impl_DmaRead (N : Nat) (G_impl_ydma : ∀ {R : Type} (s : ByteArray) (n : Int) (n1 : Int) (n2 : Int) (n3 : Int) (k : Bool → Bool → Int → Int → (List Int) → (List A2i64) → Option R), Option R) (G_impl_ybig_w : ∀ {R : Type} (b : Bool) (l : List ByteArray) (k : Bool → Option R), Option R) {R : Type} (s : ByteArray) (n : Int) (n1 : Int) (n2 : Int) (k : Int → Int → ByteArray → ByteArray → Option R) : Option R :=
 (G_impl_ybig_w false [s] fun b =>
 (cond b
 (k (2 : Int) (0 : Int) (ByteArray.mk (List.toArray [])) (ByteArray.mk (List.toArray [])))
 (G_impl_ydma s n n1 n2 (1 : Int) fun b1 b2 n3 n4 l l1 =>
 (cond (n3 != (0 : Int))
 (k n3 n4 (ByteArray.mk (List.toArray [])) (ByteArray.mk (List.toArray [])))
 (c_impl_DmaRead_0 N b1 b2 (((List.length l1) : Nat) : Int) (0 : Int) (0 : Int) (ByteArray.mk (List.toArray [])) (ByteArray.mk (List.toArray [])) l n3 n4 (ByteArray.mk (List.toArray [])) l1 (0 : Int) (ByteArray.mk (List.toArray [])) fun s5 =>
 (cond (Nat.ble (0 + (List.length l)) (List.length l))
 (k n3 n4 s5 (Go.Eng.toBytes (Go.Eng.seg l 0 (List.length l))))
 none))))))
theorem ea_e_impl_DmaRead (N : Nat) (G_impl_ydma : ∀ {R : Type} (s : ByteArray) (n : Int) (n1 : Int) (n2 : Int) (n3 : Int) (k : Bool → Bool → Int → Int → (List Int) → (List A2i64) → Option R), Option R) (G_impl_ybig_w : ∀ {R : Type} (b : Bool) (l : List ByteArray) (k : Bool → Option R), Option R) {R : Type} (s : ByteArray) (n : Int) (n1 : Int) (n2 : Int) (K : AV → Hp E → Option R) :
    runFnI (E := E) (OA_impl_DmaRead N G_impl_ydma G_impl_ybig_w) (IT_impl_DmaRead_0 N) sl_impl_DmaRead J_impl_DmaRead Try.f23 [(AV.sc (SV.str s)), (AV.sc (SV.int IntKind.i64 n)), (AV.sc (SV.int IntKind.i64 n1)), (AV.sc (SV.int IntKind.i64 n2))] [] K =
      ga_g_impl_DmaRead N G_impl_ydma G_impl_ybig_w s n n1 n2 (fun n11 n12 s6 s7 => K (AV.agg [(SV.int IntKind.i64 n11), (SV.int IntKind.i64 n12), (SV.str s6), (SV.str s7)]) []) := by kernel_rfl
theorem e_impl_DmaRead (N : Nat) {R : Type} (s : ByteArray) (n : Int) (n1 : Int) (n2 : Int) (K : AV → Hp E → Option R) :
    runFnI (E := E) (O_impl_DmaRead N) (IT_impl_DmaRead_0 N) sl_impl_DmaRead J_impl_DmaRead Try.f23 [(AV.sc (SV.str s)), (AV.sc (SV.int IntKind.i64 n)), (AV.sc (SV.int IntKind.i64 n1)), (AV.sc (SV.int IntKind.i64 n2))] [] K =
      g_impl_DmaRead N s n n1 n2 (fun n11 n12 s6 s7 => K (AV.agg [(SV.int IntKind.i64 n11), (SV.int IntKind.i64 n12), (SV.str s6), (SV.str s7)]) []) := castPr (by kernel_rfl) (ea_e_impl_DmaRead N (g_impl_ydma N) (g_impl_ybig_w N) s n n1 n2 K)
noncomputable def o_impl_DmaRead (N : Nat) {R : Type} (args : List AV) (H : Hp E) (K : AV → Hp E → Option R) : Option R :=
 match args, H with
 | [(AV.sc (SV.str s)), (AV.sc (SV.int IntKind.i64 n)), (AV.sc (SV.int IntKind.i64 n1)), (AV.sc (SV.int IntKind.i64 n2))], [] => g_impl_DmaRead N s n n1 n2 (fun n11 n12 s6 s7 => K (AV.agg [(SV.int IntKind.i64 n11), (SV.int IntKind.i64 n12), (SV.str s6), (SV.str s7)]) [])
 | _, _ => none
theorem o_impl_DmaRead_ok (N : Nat) : FnOk E 23 (o_impl_DmaRead N) := by
  intro R args H K r h
  unfold o_impl_DmaRead at h
  dsimp only at h
  split at h
  · exact fnB_ok (ids := [0]) (top := [0]) ok (O_impl_DmaRead_ok N) (jn_ok _ _ _) Try.func23 (by kernel_rfl) (IT := IT_impl_DmaRead_0 N) (sl := sl_impl_DmaRead) (J := J_impl_DmaRead) (K := K) (H := []) (IT_impl_DmaRead_0_ok N) (by kernel_rfl) rfl ((e_impl_DmaRead N _ _ _ _ K).trans h)
  · cases h
end Go.Sa
