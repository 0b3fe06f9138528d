import Derived.Test.YtaffhdhamfilpaaSpec
import Derived.Test.YtaffhdhamfilpaaPLb
import Derived.Test.YtaffhdhamfilpaaW3
set_option linter.all false
namespace Go.Sa
open Go Go.Eng Go.Proofs
set_option maxRecDepth 100000
set_option maxHeartbeats 4000000
/-! ### loop.example/g00038/impl.PackMachine$1 -/
abbrev sl_impl_PackMachine_1_wWw : SlotT := [(0, ([1, 5, 6, 7], []))]
abbrev J_impl_PackMachine_1_wWw : JT := jn [] [] []
noncomputable def O_impl_PackMachine_1_wWw (N : Nat) : Orc E := addFn 36 (o_strings_Builder_WriteString_Ww_v1 N) (addFn 38 (o_impl_PutWord N) (noFn))
theorem O_impl_PackMachine_1_wWw_ok (N : Nat) : OrcOk (O_impl_PackMachine_1_wWw N) := addFn_ok (o_strings_Builder_WriteString_Ww_v1_ok N) (addFn_ok (o_impl_PutWord_ok N) (noFn_ok))
noncomputable def s_impl_PackMachine_1_wWw_0 (N : Nat) {R : Type} (b5 : Bool) (n3 : Int) (l5 : List Int) (n4 : Int) (b6 : Bool) (l6 : List Int) (ag : Int → Bool → (List Int) → Option R)  (kN : (List Int) → Bool → (List Int) → Option R) : Option R :=
  (cond (decide ((n4 < n3)))
  (cond ((decide (((0 : Int) ≤ n4))) && (decide ((n4 < (((List.length l5) : Nat) : Int)))))
    (elemK l5 (Int.toNat n4) fun x1 =>
      (g_impl_PutWord N x1 fun s1 =>
      (g_strings_Builder_WriteString_Ww_v1 N s1 b6 l6 fun n5 b7 l7 =>
      (ag (IntKind.wrap IntKind.i64 (n4 + (1 : Int))) b7 l7))))
    none)
  (kN l5 b6 l6))
noncomputable def l_impl_PackMachine_1_wWw_0 (N : Nat) {R : Type} (b5 : Bool) (n3 : Int) (l5 : List Int) (kN : (List Int) → Bool → (List Int) → Option R) : Nat → Int → Bool → (List Int) → Option R
  | 0, _, _, _ => none
  | f + 1, n4, b6, l6 => s_impl_PackMachine_1_wWw_0 N b5 n3 l5 n4 b6 l6 (fun n4 b6 l6 => l_impl_PackMachine_1_wWw_0 N b5 n3 l5 kN f n4 b6 l6)  kN
noncomputable def c_impl_PackMachine_1_wWw_0 (N : Nat) {R : Type} (b5 : Bool) (n3 : Int) (l5 : List Int) (n4 : Int) (b6 : Bool) (l6 : List Int) (kN : (List Int) → Bool → (List Int) → Option R) : Option R := l_impl_PackMachine_1_wWw_0 N b5 n3 l5 kN N n4 b6 l6
theorem se_impl_PackMachine_1_wWw_0 (N : Nat) {R : Type} (b5 : Bool) (n3 : Int) (l5 : List Int) (n4 : Int) (b6 : Bool) (l6 : List Int) (AG : List (Option AV) → Hp E → Option R) (KL : Ex → List (Option AV) → Hp E → Option R) :
    iterStep (E := E) (O_impl_PackMachine_1_wWw N) (fun {R} => LI (noIt) 3 15 sl_impl_PackMachine_1_wWw (R := R)) J_impl_PackMachine_1_wWw 3 15 0 [1, 5, 6, 7] [] (body Go.Proofs.Try.f37 0) AG KL [(some (AV.sc (SV.ptr 1 0 0))), (some (AV.sc (SV.slc 0 none b5))), (some (AV.sc (SV.int IntKind.i64 n3))), (some (AV.sc (SV.int IntKind.i64 n4)))] [(some (HE.mk false (HB.rows (B.i64 l5)))), (some (HE.mk false (HB.exp (some 69) [(SV.ptr 1 0 0), (SV.slc 3 none b6)]))), none, (some (HE.mk false (HB.rows (B.u8 l6))))] =
      s_impl_PackMachine_1_wWw_0 N b5 n3 l5 n4 b6 l6 (fun n4 b6 l6 => AG [(some (AV.sc (SV.ptr 1 0 0))), (some (AV.sc (SV.slc 0 none b5))), (some (AV.sc (SV.int IntKind.i64 n3))), (some (AV.sc (SV.int IntKind.i64 n4)))] [(some (HE.mk false (HB.rows (B.i64 l5)))), (some (HE.mk false (HB.exp (some 69) [(SV.ptr 1 0 0), (SV.slc 3 none b6)]))), none, (some (HE.mk false (HB.rows (B.u8 l6))))])  (fun l12 b10 l13 => KL Ex.normal [] [(some (HE.mk false (HB.rows (B.i64 l12)))), (some (HE.mk false (HB.exp (some 69) [(SV.ptr 1 0 0), (SV.slc 3 none b10)]))), none, (some (HE.mk false (HB.rows (B.u8 l13))))]) := by kernel_rfl
theorem le_impl_PackMachine_1_wWw_0 (N : Nat) {R : Type} (b5 : Bool) (n3 : Int) (l5 : List Int) (KL : Ex → List (Option AV) → Hp E → Option R) : ∀ (f : Nat), ∀ (n4 : Int) (b6 : Bool) (l6 : List Int), iterK (E := E) (O_impl_PackMachine_1_wWw N) (fun {R} => LI (noIt) 3 15 sl_impl_PackMachine_1_wWw (R := R)) J_impl_PackMachine_1_wWw 3 15 0 [1, 5, 6, 7] [] (body Go.Proofs.Try.f37 0) f [(some (AV.sc (SV.ptr 1 0 0))), (some (AV.sc (SV.slc 0 none b5))), (some (AV.sc (SV.int IntKind.i64 n3))), (some (AV.sc (SV.int IntKind.i64 n4)))] [(some (HE.mk false (HB.rows (B.i64 l5)))), (some (HE.mk false (HB.exp (some 69) [(SV.ptr 1 0 0), (SV.slc 3 none b6)]))), none, (some (HE.mk false (HB.rows (B.u8 l6))))] KL = l_impl_PackMachine_1_wWw_0 N b5 n3 l5 (fun l12 b10 l13 => KL Ex.normal [] [(some (HE.mk false (HB.rows (B.i64 l12)))), (some (HE.mk false (HB.exp (some 69) [(SV.ptr 1 0 0), (SV.slc 3 none b10)]))), none, (some (HE.mk false (HB.rows (B.u8 l13))))]) f n4 b6 l6 := by
  intro f
  induction f with
  | zero => intros; rfl
  | succ f ih =>
    intro n4 b6 l6
    rw [iterK_succ, se_impl_PackMachine_1_wWw_0]
    exact (congrArg (fun z0 => s_impl_PackMachine_1_wWw_0 N b5 n3 l5 n4 b6 l6 z0 (fun l12 b10 l13 => KL Ex.normal [] [(some (HE.mk false (HB.rows (B.i64 l12)))), (some (HE.mk false (HB.exp (some 69) [(SV.ptr 1 0 0), (SV.slc 3 none b10)]))), none, (some (HE.mk false (HB.rows (B.u8 l13))))])) (funext fun n4 => funext fun b6 => funext fun l6 => ih n4 b6 l6))
noncomputable def s_impl_PackMachine_1_wWw_0b1 (N : Nat) {R : Type} (b2 : Bool) (n : Int) (n1 : Int) (l2 : List Int) (b3 : Bool) (l3 : List Int)  (ag1 : Bool → Int → Int → (List Int) → Bool → (List Int) → Option R) (kNb1 : Option R) : Option R :=
  (cond (decide ((n1 < n)))
  (cond ((decide (((0 : Int) ≤ n1))) && (decide ((n1 < (((List.length l2) : Nat) : Int)))))
    (elemK l2 (Int.toNat n1) fun x =>
      (g_impl_PutWord N x fun s =>
      (g_strings_Builder_WriteString_Ww_v1 N s b3 l3 fun n2 b4 l4 =>
      (ag1 b2 n (IntKind.wrap IntKind.i64 (n1 + (1 : Int))) l2 b4 l4))))
    none)
  kNb1)
noncomputable def l_impl_PackMachine_1_wWw_0b1 (N : Nat) {R : Type} (b2 : Bool) (n : Int) (n1 : Int) (l2 : List Int) (b3 : Bool) (l3 : List Int) (kNb1 : Option R) (kN : (List Int) → Bool → (List Int) → Option R) : Nat → Option R
  | 0 => none
  | f + 1 => s_impl_PackMachine_1_wWw_0b1 N b2 n n1 l2 b3 l3  (fun b5 n3 n4 l5 b6 l6 => l_impl_PackMachine_1_wWw_0 N b5 n3 l5 kN f n4 b6 l6) kNb1
noncomputable def c_impl_PackMachine_1_wWw_0b1 (N : Nat) {R : Type} (b2 : Bool) (n : Int) (n1 : Int) (l2 : List Int) (b3 : Bool) (l3 : List Int)  (kNb1 : Option R) (kN : (List Int) → Bool → (List Int) → Option R) : Option R := l_impl_PackMachine_1_wWw_0b1 N b2 n n1 l2 b3 l3 kNb1 kN N 
theorem se_impl_PackMachine_1_wWw_0b1 (N : Nat) {R : Type} (b2 : Bool) (n : Int) (n1 : Int) (l2 : List Int) (b3 : Bool) (l3 : List Int)  (AG : List (Option AV) → Hp E → Option R) (KL : Ex → List (Option AV) → Hp E → Option R) :
    iterStep (E := E) (O_impl_PackMachine_1_wWw N) (fun {R} => LI (noIt) 3 15 sl_impl_PackMachine_1_wWw (R := R)) J_impl_PackMachine_1_wWw 3 15 0 [1, 5, 6, 7] [] (body Go.Proofs.Try.f37 0) AG KL [(some (AV.sc (SV.ptr 1 0 0))), (some (AV.sc (SV.slc 0 none b2))), (some (AV.sc (SV.int IntKind.i64 n))), (some (AV.sc (SV.int IntKind.i64 n1)))] [(some (HE.mk false (HB.rows (B.i64 l2)))), (some (HE.mk false (HB.exp (some 69) [(SV.ptr 1 0 0), (SV.slc 2 none b3)]))), (some (HE.mk false (HB.rows (B.u8 l3))))] =
      s_impl_PackMachine_1_wWw_0b1 N b2 n n1 l2 b3 l3  (fun b5 n3 n4 l5 b6 l6 => AG [(some (AV.sc (SV.ptr 1 0 0))), (some (AV.sc (SV.slc 0 none b5))), (some (AV.sc (SV.int IntKind.i64 n3))), (some (AV.sc (SV.int IntKind.i64 n4)))] [(some (HE.mk false (HB.rows (B.i64 l5)))), (some (HE.mk false (HB.exp (some 69) [(SV.ptr 1 0 0), (SV.slc 3 none b6)]))), none, (some (HE.mk false (HB.rows (B.u8 l6))))]) (KL Ex.normal [] [(some (HE.mk false (HB.rows (B.i64 l2)))), (some (HE.mk false (HB.exp (some 69) [(SV.ptr 1 0 0), (SV.slc 2 none b3)]))), (some (HE.mk false (HB.rows (B.u8 l3))))]) := by kernel_rfl
theorem le_impl_PackMachine_1_wWw_0b1 (N : Nat) {R : Type} (b2 : Bool) (n : Int) (n1 : Int) (l2 : List Int) (b3 : Bool) (l3 : List Int) (KL : Ex → List (Option AV) → Hp E → Option R) : ∀ (f : Nat), iterK (E := E) (O_impl_PackMachine_1_wWw N) (fun {R} => LI (noIt) 3 15 sl_impl_PackMachine_1_wWw (R := R)) J_impl_PackMachine_1_wWw 3 15 0 [1, 5, 6, 7] [] (body Go.Proofs.Try.f37 0) f [(some (AV.sc (SV.ptr 1 0 0))), (some (AV.sc (SV.slc 0 none b2))), (some (AV.sc (SV.int IntKind.i64 n))), (some (AV.sc (SV.int IntKind.i64 n1)))] [(some (HE.mk false (HB.rows (B.i64 l2)))), (some (HE.mk false (HB.exp (some 69) [(SV.ptr 1 0 0), (SV.slc 2 none b3)]))), (some (HE.mk false (HB.rows (B.u8 l3))))] KL = l_impl_PackMachine_1_wWw_0b1 N b2 n n1 l2 b3 l3 (KL Ex.normal [] [(some (HE.mk false (HB.rows (B.i64 l2)))), (some (HE.mk false (HB.exp (some 69) [(SV.ptr 1 0 0), (SV.slc 2 none b3)]))), (some (HE.mk false (HB.rows (B.u8 l3))))]) (fun l14 b11 l15 => KL Ex.normal [] [(some (HE.mk false (HB.rows (B.i64 l14)))), (some (HE.mk false (HB.exp (some 69) [(SV.ptr 1 0 0), (SV.slc 3 none b11)]))), none, (some (HE.mk false (HB.rows (B.u8 l15))))]) f  := by
  intro f
  induction f with
  | zero => intros; rfl
  | succ f ih =>
    rw [iterK_succ, se_impl_PackMachine_1_wWw_0b1]
    exact (congrArg (fun z0 => s_impl_PackMachine_1_wWw_0b1 N b2 n n1 l2 b3 l3  z0 (KL Ex.normal [] [(some (HE.mk false (HB.rows (B.i64 l2)))), (some (HE.mk false (HB.exp (some 69) [(SV.ptr 1 0 0), (SV.slc 2 none b3)]))), (some (HE.mk false (HB.rows (B.u8 l3))))])) (funext fun b5 => funext fun n3 => funext fun n4 => funext fun l5 => funext fun b6 => funext fun l6 => le_impl_PackMachine_1_wWw_0 N b5 n3 l5 KL f n4 b6 l6))
noncomputable def i_impl_PackMachine_1_wWw_0 (N : Nat) {R : Type} (vs : List (Option AV)) (H : Hp E) (KL : Ex → List (Option AV) → Hp E → Option R) : Option R :=
  match vs, H with
  | [(some (AV.sc (SV.ptr 1 0 0))), (some (AV.sc (SV.slc 0 none b2))), (some (AV.sc (SV.int IntKind.i64 n))), (some (AV.sc (SV.int IntKind.i64 n1)))], [(some (HE.mk false (HB.rows (B.i64 l2)))), (some (HE.mk false (HB.exp (some 69) [(SV.ptr 1 0 0), (SV.slc 2 none b3)]))), (some (HE.mk false (HB.rows (B.u8 l3))))] => c_impl_PackMachine_1_wWw_0b1 N b2 n n1 l2 b3 l3  (KL Ex.normal [] [(some (HE.mk false (HB.rows (B.i64 l2)))), (some (HE.mk false (HB.exp (some 69) [(SV.ptr 1 0 0), (SV.slc 2 none b3)]))), (some (HE.mk false (HB.rows (B.u8 l3))))]) (fun l16 b12 l17 => KL Ex.normal [] [(some (HE.mk false (HB.rows (B.i64 l16)))), (some (HE.mk false (HB.exp (some 69) [(SV.ptr 1 0 0), (SV.slc 3 none b12)]))), none, (some (HE.mk false (HB.rows (B.u8 l17))))])
  | _, _ => none
noncomputable def IT_impl_PackMachine_1_wWw_0 (N : Nat) : Its E := addIt 0 (i_impl_PackMachine_1_wWw_0 N) (noIt)
theorem IT_impl_PackMachine_1_wWw_0_ok (N : Nat) : ItOk (IT_impl_PackMachine_1_wWw_0 N) 3 15 sl_impl_PackMachine_1_wWw (lsB Go.Proofs.Try.f37 [0]) :=
  addItB_ok (inner := []) ok (O_impl_PackMachine_1_wWw_ok N) (jn_ok _ _ _) (noIt_ok) rfl (by kernel_rfl) rfl fun vs H KL r h => by
    unfold i_impl_PackMachine_1_wWw_0 at h
    split at h
    · exact ⟨_, (le_impl_PackMachine_1_wWw_0b1 N _ _ _ _ _ _ KL N).trans h⟩
    · cases h
noncomputable def g_impl_PackMachine_1_wWw (N : Nat) {R : Type} (b : Bool) (l : List Int) (b1 : Bool) (l1 : List Int) (k : Option R) (k_1 : (List Int) → Bool → (List Int) → Option R) : Option R :=
  (c_impl_PackMachine_1_wWw_0b1 N b (((List.length l) : Nat) : Int) (0 : Int) l b1 l1 (
  k) (fun l8 b8 l9 =>
  (k_1 l8 b8 l9)))
theorem e_impl_PackMachine_1_wWw (N : Nat) {R : Type} (b : Bool) (l : List Int) (b1 : Bool) (l1 : List Int) (K : AV → Hp E → Option R) :
    runFnI (E := E) (O_impl_PackMachine_1_wWw N) (IT_impl_PackMachine_1_wWw_0 N) sl_impl_PackMachine_1_wWw J_impl_PackMachine_1_wWw Go.Proofs.Try.f37 [(AV.sc (SV.slc 0 none b)), (AV.sc (SV.ptr 1 0 0))] [(some (HE.mk false (HB.rows (B.i64 l)))), (some (HE.mk false (HB.exp (some 69) [(SV.ptr 1 0 0), (SV.slc 2 none b1)]))), (some (HE.mk false (HB.rows (B.u8 l1))))] K =
      g_impl_PackMachine_1_wWw N b l b1 l1 (K (AV.tup []) [(some (HE.mk false (HB.rows (B.i64 l)))), (some (HE.mk false (HB.exp (some 69) [(SV.ptr 1 0 0), (SV.slc 2 none b1)]))), (some (HE.mk false (HB.rows (B.u8 l1))))]) (fun l10 b9 l11 => K (AV.tup []) [(some (HE.mk false (HB.rows (B.i64 l10)))), (some (HE.mk false (HB.exp (some 69) [(SV.ptr 1 0 0), (SV.slc 3 none b9)]))), none, (some (HE.mk false (HB.rows (B.u8 l11))))]) := by kernel_rfl
noncomputable def o_impl_PackMachine_1_wWw (N : Nat) {R : Type} (args : List AV) (H : Hp E) (K : AV → Hp E → Option R) : Option R :=
  match args, H with
  | [(AV.sc (SV.slc 0 none b)), (AV.sc (SV.ptr 1 0 0))], [(some (HE.mk false (HB.rows (B.i64 l)))), (some (HE.mk false (HB.exp (some 69) [(SV.ptr 1 0 0), (SV.slc 2 none b1)]))), (some (HE.mk false (HB.rows (B.u8 l1))))] => g_impl_PackMachine_1_wWw N b l b1 l1 (K (AV.tup []) [(some (HE.mk false (HB.rows (B.i64 l)))), (some (HE.mk false (HB.exp (some 69) [(SV.ptr 1 0 0), (SV.slc 2 none b1)]))), (some (HE.mk false (HB.rows (B.u8 l1))))]) (fun l10 b9 l11 => K (AV.tup []) [(some (HE.mk false (HB.rows (B.i64 l10)))), (some (HE.mk false (HB.exp (some 69) [(SV.ptr 1 0 0), (SV.slc 3 none b9)]))), none, (some (HE.mk false (HB.rows (B.u8 l11))))])
  | _, _ => none
theorem o_impl_PackMachine_1_wWw_ok (N : Nat) : FnOk E 37 (o_impl_PackMachine_1_wWw N) := by
  intro R args H K r h
  unfold o_impl_PackMachine_1_wWw at h
  dsimp only at h
  split at h
  · exact fnB_ok (ids := [0]) (top := [0]) ok (O_impl_PackMachine_1_wWw_ok N) (jn_ok _ _ _) Go.Proofs.Try.func37 (by kernel_rfl) (IT := IT_impl_PackMachine_1_wWw_0 N) (sl := sl_impl_PackMachine_1_wWw) (J := J_impl_PackMachine_1_wWw) (K := K) (H := [(some (HE.mk false (HB.rows (B.i64 _)))), (some (HE.mk false (HB.exp (some 69) [(SV.ptr 1 0 0), (SV.slc 2 none _)]))), (some (HE.mk false (HB.rows (B.u8 _))))]) (IT_impl_PackMachine_1_wWw_0_ok N) (by kernel_rfl) rfl ((e_impl_PackMachine_1_wWw N _ _ _ _ K).trans h)
  · cases h
/-! ### loop.example/g00038/impl.yzeroFrame -/
abbrev sl_impl_yzeroFrame : SlotT := [(0, ([0, 1, 5], [4]))]
abbrev J_impl_yzeroFrame : JT := jn [] [] []
noncomputable def O_impl_yzeroFrame (N : Nat) : Orc E := noFn
theorem O_impl_yzeroFrame_ok (N : Nat) : OrcOk (O_impl_yzeroFrame N) := noFn_ok
noncomputable def s_impl_yzeroFrame_0 (N : Nat) {R : Type} (s1 : ByteArray) (n1 : Int) (n2 : Int) (ag : Int → Option R)  (kR : Option R) (kN : Option R) : Option R :=
  (cond (decide ((n2 < (IntKind.wrap IntKind.i64 ((IntKind.wrap IntKind.i64 (n1 + (1 : Int))) * (256 : Int))))))
  (cond ((decide (((0 : Int) ≤ n2))) && (decide ((n2 < (((ByteArray.size s1) : Nat) : Int)))))
    (cond ((Go.Eng.bt s1 (Int.toNat n2)) != (0 : Int))
      kR
      (ag (IntKind.wrap IntKind.i64 (n2 + (1 : Int)))))
    none)
  kN)
noncomputable def l_impl_yzeroFrame_0 (N : Nat) {R : Type} (s1 : ByteArray) (n1 : Int) (kR : Option R) (kN : Option R) : Nat → Int → Option R
  | 0, _ => none
  | f + 1, n2 => s_impl_yzeroFrame_0 N s1 n1 n2 (fun n2 => l_impl_yzeroFrame_0 N s1 n1 kR kN f n2)  kR kN
noncomputable def c_impl_yzeroFrame_0 (N : Nat) {R : Type} (s1 : ByteArray) (n1 : Int) (n2 : Int) (kR : Option R) (kN : Option R) : Option R := l_impl_yzeroFrame_0 N s1 n1 kR kN N n2
theorem se_impl_yzeroFrame_0 (N : Nat) {R : Type} (s1 : ByteArray) (n1 : Int) (n2 : Int) (AG : List (Option AV) → Hp E → Option R) (KL : Ex → List (Option AV) → Hp E → Option R) :
    iterStep (E := E) (O_impl_yzeroFrame N) (fun {R} => LI (noIt) 0 19 sl_impl_yzeroFrame (R := R)) J_impl_yzeroFrame 0 19 0 [0, 1, 5] [4] (body Go.Proofs.Try.f41 0) AG KL [(some (AV.sc (SV.str s1))), (some (AV.sc (SV.int IntKind.i64 n1))), (some (AV.sc (SV.int IntKind.i64 n2)))] [] =
      s_impl_yzeroFrame_0 N s1 n1 n2 (fun n2 => AG [(some (AV.sc (SV.str s1))), (some (AV.sc (SV.int IntKind.i64 n1))), (some (AV.sc (SV.int IntKind.i64 n2)))] [])  (KL Ex.ret [(some (AV.sc (SV.bool false)))] []) (KL Ex.normal [none] []) := by kernel_rfl
theorem le_impl_yzeroFrame_0 (N : Nat) {R : Type} (s1 : ByteArray) (n1 : Int) (KL : Ex → List (Option AV) → Hp E → Option R) : ∀ (f : Nat), ∀ (n2 : Int), iterK (E := E) (O_impl_yzeroFrame N) (fun {R} => LI (noIt) 0 19 sl_impl_yzeroFrame (R := R)) J_impl_yzeroFrame 0 19 0 [0, 1, 5] [4] (body Go.Proofs.Try.f41 0) f [(some (AV.sc (SV.str s1))), (some (AV.sc (SV.int IntKind.i64 n1))), (some (AV.sc (SV.int IntKind.i64 n2)))] [] KL = l_impl_yzeroFrame_0 N s1 n1 (KL Ex.ret [(some (AV.sc (SV.bool false)))] []) (KL Ex.normal [none] []) f n2 := by
  intro f
  induction f with
  | zero => intros; rfl
  | succ f ih =>
    intro n2
    rw [iterK_succ, se_impl_yzeroFrame_0]
    exact (congrArg (fun z0 => s_impl_yzeroFrame_0 N s1 n1 n2 z0 (KL Ex.ret [(some (AV.sc (SV.bool false)))] []) (KL Ex.normal [none] [])) (funext fun n2 => ih n2))
noncomputable def i_impl_yzeroFrame_0 (N : Nat) {R : Type} (vs : List (Option AV)) (H : Hp E) (KL : Ex → List (Option AV) → Hp E → Option R) : Option R :=
  match vs, H with
  | [(some (AV.sc (SV.str s1))), (some (AV.sc (SV.int IntKind.i64 n1))), (some (AV.sc (SV.int IntKind.i64 n2)))], [] => c_impl_yzeroFrame_0 N s1 n1 n2 (KL Ex.ret [(some (AV.sc (SV.bool false)))] []) (KL Ex.normal [none] [])
  | _, _ => none
noncomputable def IT_impl_yzeroFrame_0 (N : Nat) : Its E := addIt 0 (i_impl_yzeroFrame_0 N) (noIt)
theorem IT_impl_yzeroFrame_0_ok (N : Nat) : ItOk (IT_impl_yzeroFrame_0 N) 0 19 sl_impl_yzeroFrame (lsB Go.Proofs.Try.f41 [0]) :=
  addItB_ok (inner := []) ok (O_impl_yzeroFrame_ok N) (jn_ok _ _ _) (noIt_ok) rfl (by kernel_rfl) rfl fun vs H KL r h => by
    unfold i_impl_yzeroFrame_0 at h
    split at h
    · exact ⟨_, (le_impl_yzeroFrame_0 N _ _ KL N _).trans h⟩
    · cases h
noncomputable def g_impl_yzeroFrame (N : Nat) {R : Type} (s : ByteArray) (n : Int) (k : Bool → Option R) : Option R :=
  (c_impl_yzeroFrame_0 N s n (IntKind.wrap IntKind.i64 (n * (256 : Int))) (
  (k false)) (
  (k true)))
theorem e_impl_yzeroFrame (N : Nat) {R : Type} (s : ByteArray) (n : Int) (K : AV → Hp E → Option R) :
    runFnI (E := E) (O_impl_yzeroFrame N) (IT_impl_yzeroFrame_0 N) sl_impl_yzeroFrame J_impl_yzeroFrame Go.Proofs.Try.f41 [(AV.sc (SV.str s)), (AV.sc (SV.int IntKind.i64 n))] [] K =
      g_impl_yzeroFrame N s n (fun b => K (AV.sc (SV.bool b)) []) := by kernel_rfl
noncomputable def o_impl_yzeroFrame (N : Nat) {R : Type} (args : List AV) (H : Hp E) (K : AV → Hp E → Option R) : Option R :=
  match args, H with
  | [(AV.sc (SV.str s)), (AV.sc (SV.int IntKind.i64 n))], [] => g_impl_yzeroFrame N s n (fun b => K (AV.sc (SV.bool b)) [])
  | _, _ => none
theorem o_impl_yzeroFrame_ok (N : Nat) : FnOk E 41 (o_impl_yzeroFrame N) := by
  intro R args H K r h
  unfold o_impl_yzeroFrame at h
  dsimp only at h
  split at h
  · exact fnB_ok (ids := [0]) (top := [0]) ok (O_impl_yzeroFrame_ok N) (jn_ok _ _ _) Go.Proofs.Try.func41 (by kernel_rfl) (IT := IT_impl_yzeroFrame_0 N) (sl := sl_impl_yzeroFrame) (J := J_impl_yzeroFrame) (K := K) (H := []) (IT_impl_yzeroFrame_0_ok N) (by kernel_rfl) rfl ((e_impl_yzeroFrame N _ _ K).trans h)
  · cases h
/-! ### loop.example/g00038/impl.PackMachine$2 -/
abbrev sl_impl_PackMachine_2_Wwwwww : SlotT := []
abbrev J_impl_PackMachine_2_Wwwwww : JT := jn [] [] []
noncomputable def O_impl_PackMachine_2_Wwwwww (N : Nat) : Orc E := addFn 41 (o_impl_yzeroFrame N) (noFn)
theorem O_impl_PackMachine_2_Wwwwww_ok (N : Nat) : OrcOk (O_impl_PackMachine_2_Wwwwww N) := addFn_ok (o_impl_yzeroFrame_ok N) (noFn_ok)
noncomputable def g_impl_PackMachine_2_Wwwwww (N : Nat) {R : Type} (n : Int) (n1 : Int) (b : Bool) (n2 : Int) (b1 : Bool) (b2 : Bool) (s : ByteArray) (n3 : Int) (n4 : Int) (n5 : Int) (b3 : Bool) (b4 : Bool) (n6 : Int) (l : List Int) (l1 : List Int) (l2 : List Int) (l3 : List PortValue) (l4 : List PortValue) (k : Bool → Option R) : Option R :=
  (g_impl_yzeroFrame N s n fun b5 =>
  (k (!b5)))
theorem e_impl_PackMachine_2_Wwwwww (N : Nat) {R : Type} (n : Int) (n1 : Int) (b : Bool) (n2 : Int) (b1 : Bool) (b2 : Bool) (s : ByteArray) (n3 : Int) (n4 : Int) (n5 : Int) (b3 : Bool) (b4 : Bool) (n6 : Int) (l : List Int) (l1 : List Int) (l2 : List Int) (l3 : List PortValue) (l4 : List PortValue) (K : AV → Hp E → Option R) :
    runFnI (E := E) (O_impl_PackMachine_2_Wwwwww N) (noIt) sl_impl_PackMachine_2_Wwwwww J_impl_PackMachine_2_Wwwwww Go.Proofs.Try.f40 [(AV.sc (SV.int IntKind.i64 n)), (AV.sc (SV.ptr 0 0 0))] [(some (HE.mk false (HB.exp none [(SV.int IntKind.i64 n1), (SV.slc 1 none b), (SV.int IntKind.i64 n2), (SV.slc 2 none b1), (SV.slc 3 none b2), (SV.str s), (SV.int IntKind.i64 n3), (SV.int IntKind.i64 n4), (SV.int IntKind.i64 n5), (SV.slc 4 none b3), (SV.slc 5 none b4), (SV.int IntKind.i64 n6)]))), (some (HE.mk false (HB.rows (B.i64 l)))), (some (HE.mk false (HB.rows (B.i64 l1)))), (some (HE.mk false (HB.rows (B.i64 l2)))), (some (HE.mk false (HB.rows (B.iPortValue l3)))), (some (HE.mk false (HB.rows (B.iPortValue l4))))] K =
      g_impl_PackMachine_2_Wwwwww N n n1 b n2 b1 b2 s n3 n4 n5 b3 b4 n6 l l1 l2 l3 l4 (fun b6 => K (AV.sc (SV.bool b6)) [(some (HE.mk false (HB.exp none [(SV.int IntKind.i64 n1), (SV.slc 1 none b), (SV.int IntKind.i64 n2), (SV.slc 2 none b1), (SV.slc 3 none b2), (SV.str s), (SV.int IntKind.i64 n3), (SV.int IntKind.i64 n4), (SV.int IntKind.i64 n5), (SV.slc 4 none b3), (SV.slc 5 none b4), (SV.int IntKind.i64 n6)]))), (some (HE.mk false (HB.rows (B.i64 l)))), (some (HE.mk false (HB.rows (B.i64 l1)))), (some (HE.mk false (HB.rows (B.i64 l2)))), (some (HE.mk false (HB.rows (B.iPortValue l3)))), (some (HE.mk false (HB.rows (B.iPortValue l4))))]) := by kernel_rfl
noncomputable def o_impl_PackMachine_2_Wwwwww (N : Nat) {R : Type} (args : List AV) (H : Hp E) (K : AV → Hp E → Option R) : Option R :=
  match args, H with
  | [(AV.sc (SV.int IntKind.i64 n)), (AV.sc (SV.ptr 0 0 0))], [(some (HE.mk false (HB.exp none [(SV.int IntKind.i64 n1), (SV.slc 1 none b), (SV.int IntKind.i64 n2), (SV.slc 2 none b1), (SV.slc 3 none b2), (SV.str s), (SV.int IntKind.i64 n3), (SV.int IntKind.i64 n4), (SV.int IntKind.i64 n5), (SV.slc 4 none b3), (SV.slc 5 none b4), (SV.int IntKind.i64 n6)]))), (some (HE.mk false (HB.rows (B.i64 l)))), (some (HE.mk false (HB.rows (B.i64 l1)))), (some (HE.mk false (HB.rows (B.i64 l2)))), (some (HE.mk false (HB.rows (B.iPortValue l3)))), (some (HE.mk false (HB.rows (B.iPortValue l4))))] => g_impl_PackMachine_2_Wwwwww N n n1 b n2 b1 b2 s n3 n4 n5 b3 b4 n6 l l1 l2 l3 l4 (fun b6 => K (AV.sc (SV.bool b6)) [(some (HE.mk false (HB.exp none [(SV.int IntKind.i64 n1), (SV.slc 1 none b), (SV.int IntKind.i64 n2), (SV.slc 2 none b1), (SV.slc 3 none b2), (SV.str s), (SV.int IntKind.i64 n3), (SV.int IntKind.i64 n4), (SV.int IntKind.i64 n5), (SV.slc 4 none b3), (SV.slc 5 none b4), (SV.int IntKind.i64 n6)]))), (some (HE.mk false (HB.rows (B.i64 l)))), (some (HE.mk false (HB.rows (B.i64 l1)))), (some (HE.mk false (HB.rows (B.i64 l2)))), (some (HE.mk false (HB.rows (B.iPortValue l3)))), (some (HE.mk false (HB.rows (B.iPortValue l4))))])
  | _, _ => none
theorem o_impl_PackMachine_2_Wwwwww_ok (N : Nat) : FnOk E 40 (o_impl_PackMachine_2_Wwwwww N) := by
  intro R args H K r h
  unfold o_impl_PackMachine_2_Wwwwww at h
  dsimp only at h
  split at h
  · exact fnB_ok (ids := []) (top := []) ok (O_impl_PackMachine_2_Wwwwww_ok N) (jn_ok _ _ _) Go.Proofs.Try.func40 (by kernel_rfl) (IT := noIt) (sl := sl_impl_PackMachine_2_Wwwwww) (J := J_impl_PackMachine_2_Wwwwww) (K := K) (H := [(some (HE.mk false (HB.exp none [(SV.int IntKind.i64 _), (SV.slc 1 none _), (SV.int IntKind.i64 _), (SV.slc 2 none _), (SV.slc 3 none _), (SV.str _), (SV.int IntKind.i64 _), (SV.int IntKind.i64 _), (SV.int IntKind.i64 _), (SV.slc 4 none _), (SV.slc 5 none _), (SV.int IntKind.i64 _)]))), (some (HE.mk false (HB.rows (B.i64 _)))), (some (HE.mk false (HB.rows (B.i64 _)))), (some (HE.mk false (HB.rows (B.i64 _)))), (some (HE.mk false (HB.rows (B.iPortValue _)))), (some (HE.mk false (HB.rows (B.iPortValue _))))]) (noIt_ok) (by kernel_rfl) rfl ((e_impl_PackMachine_2_Wwwwww N _ _ _ _ _ _ _ _ _ _ _ _ _ _ _ _ _ _ K).trans h)
  · cases h
/-! ### loop.example/g00038/impl.yframeSet -/
abbrev sl_impl_yframeSet_Fimpl_PackMachine_2_Wwwwww : SlotT := [(0, ([1, 5, 11, 12], [5]))]
abbrev J_impl_yframeSet_Fimpl_PackMachine_2_Wwwwww : JT := jn [] [] []
noncomputable def O_impl_yframeSet_Fimpl_PackMachine_2_Wwwwww (N : Nat) : Orc E := addFn 40 (o_impl_PackMachine_2_Wwwwww N) (noFn)
noncomputable def pa_impl_yframeSet_Fimpl_PackMachine_2_Wwwwww__o_impl_PackMachine_2_Wwwwww (N : Nat) (G_impl_PackMachine_2_Wwwwww : ∀ {R : Type} (n : Int) (n1 : Int) (b : Bool) (n2 : Int) (b1 : Bool) (b2 : Bool) (s : ByteArray) (n3 : Int) (n4 : Int) (n5 : Int) (b3 : Bool) (b4 : Bool) (n6 : Int) (l : List Int) (l1 : List Int) (l2 : List Int) (l3 : List PortValue) (l4 : List PortValue) (k : Bool → Option R), Option R) {R : Type} (args : List AV) (H : Hp E) (K : AV → Hp E → Option R) : Option R :=
  match args, H with
  | [(AV.sc (SV.int IntKind.i64 n)), (AV.sc (SV.ptr 0 0 0))], [(some (HE.mk false (HB.exp none [(SV.int IntKind.i64 n1), (SV.slc 1 none b), (SV.int IntKind.i64 n2), (SV.slc 2 none b1), (SV.slc 3 none b2), (SV.str s), (SV.int IntKind.i64 n3), (SV.int IntKind.i64 n4), (SV.int IntKind.i64 n5), (SV.slc 4 none b3), (SV.slc 5 none b4), (SV.int IntKind.i64 n6)]))), (some (HE.mk false (HB.rows (B.i64 l)))), (some (HE.mk false (HB.rows (B.i64 l1)))), (some (HE.mk false (HB.rows (B.i64 l2)))), (some (HE.mk false (HB.rows (B.iPortValue l3)))), (some (HE.mk false (HB.rows (B.iPortValue l4))))] => G_impl_PackMachine_2_Wwwwww n n1 b n2 b1 b2 s n3 n4 n5 b3 b4 n6 l l1 l2 l3 l4 (fun b6 => K (AV.sc (SV.bool b6)) [(some (HE.mk false (HB.exp none [(SV.int IntKind.i64 n1), (SV.slc 1 none b), (SV.int IntKind.i64 n2), (SV.slc 2 none b1), (SV.slc 3 none b2), (SV.str s), (SV.int IntKind.i64 n3), (SV.int IntKind.i64 n4), (SV.int IntKind.i64 n5), (SV.slc 4 none b3), (SV.slc 5 none b4), (SV.int IntKind.i64 n6)]))), (some (HE.mk false (HB.rows (B.i64 l)))), (some (HE.mk false (HB.rows (B.i64 l1)))), (some (HE.mk false (HB.rows (B.i64 l2)))), (some (HE.mk false (HB.rows (B.iPortValue l3)))), (some (HE.mk false (HB.rows (B.iPortValue l4))))])
  | _, _ => none
noncomputable def OA_impl_yframeSet_Fimpl_PackMachine_2_Wwwwww (N : Nat) (G_impl_PackMachine_2_Wwwwww : ∀ {R : Type} (n : Int) (n1 : Int) (b : Bool) (n2 : Int) (b1 : Bool) (b2 : Bool) (s : ByteArray) (n3 : Int) (n4 : Int) (n5 : Int) (b3 : Bool) (b4 : Bool) (n6 : Int) (l : List Int) (l1 : List Int) (l2 : List Int) (l3 : List PortValue) (l4 : List PortValue) (k : Bool → Option R), Option R) : Orc E := addFn 40 (pa_impl_yframeSet_Fimpl_PackMachine_2_Wwwwww__o_impl_PackMachine_2_Wwwwww N G_impl_PackMachine_2_Wwwwww) (noFn)
theorem O_impl_yframeSet_Fimpl_PackMachine_2_Wwwwww_ok (N : Nat) : OrcOk (O_impl_yframeSet_Fimpl_PackMachine_2_Wwwwww N) := addFn_ok (o_impl_PackMachine_2_Wwwwww_ok N) (noFn_ok)
noncomputable def s_impl_yframeSet_Fimpl_PackMachine_2_Wwwwww_0 (N : Nat) {R : Type} (b5 : Bool) (n7 : Int) (n9 : Int) (b6 : Bool) (n10 : Int) (b7 : Bool) (b8 : Bool) (s1 : ByteArray) (n11 : Int) (n12 : Int) (n13 : Int) (b9 : Bool) (b10 : Bool) (n14 : Int) (l5 : List Int) (l6 : List Int) (l7 : List Int) (l8 : List PortValue) (l9 : List PortValue) (n8 : Int) (l10 : List Int) (ag : Int → (List Int) → Option R)  (kN : (List Int) → Option R) : Option R :=
  (cond (decide ((n8 < n7)))
  (g_impl_PackMachine_2_Wwwwww N n8 n9 b6 n10 b7 b8 s1 n11 n12 n13 b9 b10 n14 l5 l6 l7 l8 l9 fun b11 =>
    (cond b11
    (cond ((decide (((0 : Int) ≤ (IntKind.wrap IntKind.i64 (Int.tdiv n8 (8 : Int)))))) && (decide (((IntKind.wrap IntKind.i64 (Int.tdiv n8 (8 : Int))) < (((List.length l10) : Nat) : Int)))))
      (elemK l10 (Int.toNat (IntKind.wrap IntKind.i64 (Int.tdiv n8 (8 : Int)))) fun x =>
        (cond (decide (((Int.tmod n8 (8 : Int)) < (0 : Int))))
        none
        (cond ((decide (((0 : Int) ≤ (IntKind.wrap IntKind.i64 (Int.tdiv n8 (8 : Int)))))) && (decide (((IntKind.wrap IntKind.i64 (Int.tdiv n8 (8 : Int))) < (((List.length l10) : Nat) : Int)))))
          (elemK l10 (Int.toNat (IntKind.wrap IntKind.i64 (Int.tdiv n8 (8 : Int)))) fun x1 =>
            (cond (Nat.blt (Int.toNat (IntKind.wrap IntKind.i64 (Int.tdiv n8 (8 : Int)))) (List.length l10))
            (ag (IntKind.wrap IntKind.i64 (n8 + (1 : Int))) (nset l10 (Int.toNat (IntKind.wrap IntKind.i64 (Int.tdiv n8 (8 : Int)))) (IntKind.wrap IntKind.u8 (((BitVec.toNat ((BitVec.ofInt 8 x) ||| (BitVec.ofInt 8 (IntKind.wrap IntKind.u8 ((1 : Int) * ((2 : Int) ^ (Min.min (Int.toNat (Int.tmod n8 (8 : Int))) 8))))))) : Nat) : Int))))
            none))
          none)))
      none)
    (ag (IntKind.wrap IntKind.i64 (n8 + (1 : Int))) l10)))
  (kN l10))
noncomputable def ga_s_impl_yframeSet_Fimpl_PackMachine_2_Wwwwww_0 (N : Nat) (G_impl_PackMachine_2_Wwwwww : ∀ {R : Type} (n : Int) (n1 : Int) (b : Bool) (n2 : Int) (b1 : Bool) (b2 : Bool) (s : ByteArray) (n3 : Int) (n4 : Int) (n5 : Int) (b3 : Bool) (b4 : Bool) (n6 : Int) (l : List Int) (l1 : List Int) (l2 : List Int) (l3 : List PortValue) (l4 : List PortValue) (k : Bool → Option R), Option R) {R : Type} (b5 : Bool) (n7 : Int) (n9 : Int) (b6 : Bool) (n10 : Int) (b7 : Bool) (b8 : Bool) (s1 : ByteArray) (n11 : Int) (n12 : Int) (n13 : Int) (b9 : Bool) (b10 : Bool) (n14 : Int) (l5 : List Int) (l6 : List Int) (l7 : List Int) (l8 : List PortValue) (l9 : List PortValue) (n8 : Int) (l10 : List Int) (ag : Int → (List Int) → Option R)  (kN : (List Int) → Option R) : Option R :=
  (cond (decide ((n8 < n7)))
  (G_impl_PackMachine_2_Wwwwww n8 n9 b6 n10 b7 b8 s1 n11 n12 n13 b9 b10 n14 l5 l6 l7 l8 l9 fun b11 =>
    (cond b11
    (cond ((decide (((0 : Int) ≤ (IntKind.wrap IntKind.i64 (Int.tdiv n8 (8 : Int)))))) && (decide (((IntKind.wrap IntKind.i64 (Int.tdiv n8 (8 : Int))) < (((List.length l10) : Nat) : Int)))))
      (elemK l10 (Int.toNat (IntKind.wrap IntKind.i64 (Int.tdiv n8 (8 : Int)))) fun x =>
        (cond (decide (((Int.tmod n8 (8 : Int)) < (0 : Int))))
        none
        (cond ((decide (((0 : Int) ≤ (IntKind.wrap IntKind.i64 (Int.tdiv n8 (8 : Int)))))) && (decide (((IntKind.wrap IntKind.i64 (Int.tdiv n8 (8 : Int))) < (((List.length l10) : Nat) : Int)))))
          (elemK l10 (Int.toNat (IntKind.wrap IntKind.i64 (Int.tdiv n8 (8 : Int)))) fun x1 =>
            (cond (Nat.blt (Int.toNat (IntKind.wrap IntKind.i64 (Int.tdiv n8 (8 : Int)))) (List.length l10))
            (ag (IntKind.wrap IntKind.i64 (n8 + (1 : Int))) (nset l10 (Int.toNat (IntKind.wrap IntKind.i64 (Int.tdiv n8 (8 : Int)))) (IntKind.wrap IntKind.u8 (((BitVec.toNat ((BitVec.ofInt 8 x) ||| (BitVec.ofInt 8 (IntKind.wrap IntKind.u8 ((1 : Int) * ((2 : Int) ^ (Min.min (Int.toNat (Int.tmod n8 (8 : Int))) 8))))))) : Nat) : Int))))
            none))
          none)))
      none)
    (ag (IntKind.wrap IntKind.i64 (n8 + (1 : Int))) l10)))
  (kN l10))
noncomputable def l_impl_yframeSet_Fimpl_PackMachine_2_Wwwwww_0 (N : Nat) {R : Type} (b5 : Bool) (n7 : Int) (n9 : Int) (b6 : Bool) (n10 : Int) (b7 : Bool) (b8 : Bool) (s1 : ByteArray) (n11 : Int) (n12 : Int) (n13 : Int) (b9 : Bool) (b10 : Bool) (n14 : Int) (l5 : List Int) (l6 : List Int) (l7 : List Int) (l8 : List PortValue) (l9 : List PortValue) (kN : (List Int) → Option R) : Nat → Int → (List Int) → Option R
  | 0, _, _ => none
  | f + 1, n8, l10 => s_impl_yframeSet_Fimpl_PackMachine_2_Wwwwww_0 N b5 n7 n9 b6 n10 b7 b8 s1 n11 n12 n13 b9 b10 n14 l5 l6 l7 l8 l9 n8 l10 (fun n8 l10 => l_impl_yframeSet_Fimpl_PackMachine_2_Wwwwww_0 N b5 n7 n9 b6 n10 b7 b8 s1 n11 n12 n13 b9 b10 n14 l5 l6 l7 l8 l9 kN f n8 l10)  kN
noncomputable def c_impl_yframeSet_Fimpl_PackMachine_2_Wwwwww_0 (N : Nat) {R : Type} (b5 : Bool) (n7 : Int) (n9 : Int) (b6 : Bool) (n10 : Int) (b7 : Bool) (b8 : Bool) (s1 : ByteArray) (n11 : Int) (n12 : Int) (n13 : Int) (b9 : Bool) (b10 : Bool) (n14 : Int) (l5 : List Int) (l6 : List Int) (l7 : List Int) (l8 : List PortValue) (l9 : List PortValue) (n8 : Int) (l10 : List Int) (kN : (List Int) → Option R) : Option R := l_impl_yframeSet_Fimpl_PackMachine_2_Wwwwww_0 N b5 n7 n9 b6 n10 b7 b8 s1 n11 n12 n13 b9 b10 n14 l5 l6 l7 l8 l9 kN N n8 l10
theorem ea_se_impl_yframeSet_Fimpl_PackMachine_2_Wwwwww_0 (N : Nat) (G_impl_PackMachine_2_Wwwwww : ∀ {R : Type} (n : Int) (n1 : Int) (b : Bool) (n2 : Int) (b1 : Bool) (b2 : Bool) (s : ByteArray) (n3 : Int) (n4 : Int) (n5 : Int) (b3 : Bool) (b4 : Bool) (n6 : Int) (l : List Int) (l1 : List Int) (l2 : List Int) (l3 : List PortValue) (l4 : List PortValue) (k : Bool → Option R), Option R) {R : Type} (b5 : Bool) (n7 : Int) (n9 : Int) (b6 : Bool) (n10 : Int) (b7 : Bool) (b8 : Bool) (s1 : ByteArray) (n11 : Int) (n12 : Int) (n13 : Int) (b9 : Bool) (b10 : Bool) (n14 : Int) (l5 : List Int) (l6 : List Int) (l7 : List Int) (l8 : List PortValue) (l9 : List PortValue) (n8 : Int) (l10 : List Int) (AG : List (Option AV) → Hp E → Option R) (KL : Ex → List (Option AV) → Hp E → Option R) :
    iterStep (E := E) (OA_impl_yframeSet_Fimpl_PackMachine_2_Wwwwww N G_impl_PackMachine_2_Wwwwww) (fun {R} => LI (noIt) 6 31 sl_impl_yframeSet_Fimpl_PackMachine_2_Wwwwww (R := R)) J_impl_yframeSet_Fimpl_PackMachine_2_Wwwwww 6 31 0 [1, 5, 11, 12] [5] (body Go.Proofs.Try.f39 0) AG KL [(some (AV.sc (SV.fn 40 [(0, (0, 0))]))), (some (AV.sc (SV.slc 6 none b5))), (some (AV.sc (SV.int IntKind.i64 n7))), (some (AV.sc (SV.int IntKind.i64 n8)))] [(some (HE.mk false (HB.exp none [(SV.int IntKind.i64 n9), (SV.slc 1 none b6), (SV.int IntKind.i64 n10), (SV.slc 2 none b7), (SV.slc 3 none b8), (SV.str s1), (SV.int IntKind.i64 n11), (SV.int IntKind.i64 n12), (SV.int IntKind.i64 n13), (SV.slc 4 none b9), (SV.slc 5 none b10), (SV.int IntKind.i64 n14)]))), (some (HE.mk false (HB.rows (B.i64 l5)))), (some (HE.mk false (HB.rows (B.i64 l6)))), (some (HE.mk false (HB.rows (B.i64 l7)))), (some (HE.mk false (HB.rows (B.iPortValue l8)))), (some (HE.mk false (HB.rows (B.iPortValue l9)))), (some (HE.mk false (HB.rows (B.u8 l10))))] =
      ga_s_impl_yframeSet_Fimpl_PackMachine_2_Wwwwww_0 N G_impl_PackMachine_2_Wwwwww b5 n7 n9 b6 n10 b7 b8 s1 n11 n12 n13 b9 b10 n14 l5 l6 l7 l8 l9 n8 l10 (fun n8 l10 => AG [(some (AV.sc (SV.fn 40 [(0, (0, 0))]))), (some (AV.sc (SV.slc 6 none b5))), (some (AV.sc (SV.int IntKind.i64 n7))), (some (AV.sc (SV.int IntKind.i64 n8)))] [(some (HE.mk false (HB.exp none [(SV.int IntKind.i64 n9), (SV.slc 1 none b6), (SV.int IntKind.i64 n10), (SV.slc 2 none b7), (SV.slc 3 none b8), (SV.str s1), (SV.int IntKind.i64 n11), (SV.int IntKind.i64 n12), (SV.int IntKind.i64 n13), (SV.slc 4 none b9), (SV.slc 5 none b10), (SV.int IntKind.i64 n14)]))), (some (HE.mk false (HB.rows (B.i64 l5)))), (some (HE.mk false (HB.rows (B.i64 l6)))), (some (HE.mk false (HB.rows (B.i64 l7)))), (some (HE.mk false (HB.rows (B.iPortValue l8)))), (some (HE.mk false (HB.rows (B.iPortValue l9)))), (some (HE.mk false (HB.rows (B.u8 l10))))])  (fun l12 => KL Ex.normal [(some (AV.sc (SV.slc 6 none b5)))] [(some (HE.mk false (HB.exp none [(SV.int IntKind.i64 n9), (SV.slc 1 none b6), (SV.int IntKind.i64 n10), (SV.slc 2 none b7), (SV.slc 3 none b8), (SV.str s1), (SV.int IntKind.i64 n11), (SV.int IntKind.i64 n12), (SV.int IntKind.i64 n13), (SV.slc 4 none b9), (SV.slc 5 none b10), (SV.int IntKind.i64 n14)]))), (some (HE.mk false (HB.rows (B.i64 l5)))), (some (HE.mk false (HB.rows (B.i64 l6)))), (some (HE.mk false (HB.rows (B.i64 l7)))), (some (HE.mk false (HB.rows (B.iPortValue l8)))), (some (HE.mk false (HB.rows (B.iPortValue l9)))), (some (HE.mk false (HB.rows (B.u8 l12))))]) := by kernel_rfl
theorem se_impl_yframeSet_Fimpl_PackMachine_2_Wwwwww_0 (N : Nat) {R : Type} (b5 : Bool) (n7 : Int) (n9 : Int) (b6 : Bool) (n10 : Int) (b7 : Bool) (b8 : Bool) (s1 : ByteArray) (n11 : Int) (n12 : Int) (n13 : Int) (b9 : Bool) (b10 : Bool) (n14 : Int) (l5 : List Int) (l6 : List Int) (l7 : List Int) (l8 : List PortValue) (l9 : List PortValue) (n8 : Int) (l10 : List Int) (AG : List (Option AV) → Hp E → Option R) (KL : Ex → List (Option AV) → Hp E → Option R) :
    iterStep (E := E) (O_impl_yframeSet_Fimpl_PackMachine_2_Wwwwww N) (fun {R} => LI (noIt) 6 31 sl_impl_yframeSet_Fimpl_PackMachine_2_Wwwwww (R := R)) J_impl_yframeSet_Fimpl_PackMachine_2_Wwwwww 6 31 0 [1, 5, 11, 12] [5] (body Go.Proofs.Try.f39 0) AG KL [(some (AV.sc (SV.fn 40 [(0, (0, 0))]))), (some (AV.sc (SV.slc 6 none b5))), (some (AV.sc (SV.int IntKind.i64 n7))), (some (AV.sc (SV.int IntKind.i64 n8)))] [(some (HE.mk false (HB.exp none [(SV.int IntKind.i64 n9), (SV.slc 1 none b6), (SV.int IntKind.i64 n10), (SV.slc 2 none b7), (SV.slc 3 none b8), (SV.str s1), (SV.int IntKind.i64 n11), (SV.int IntKind.i64 n12), (SV.int IntKind.i64 n13), (SV.slc 4 none b9), (SV.slc 5 none b10), (SV.int IntKind.i64 n14)]))), (some (HE.mk false (HB.rows (B.i64 l5)))), (some (HE.mk false (HB.rows (B.i64 l6)))), (some (HE.mk false (HB.rows (B.i64 l7)))), (some (HE.mk false (HB.rows (B.iPortValue l8)))), (some (HE.mk false (HB.rows (B.iPortValue l9)))), (some (HE.mk false (HB.rows (B.u8 l10))))] =
      s_impl_yframeSet_Fimpl_PackMachine_2_Wwwwww_0 N b5 n7 n9 b6 n10 b7 b8 s1 n11 n12 n13 b9 b10 n14 l5 l6 l7 l8 l9 n8 l10 (fun n8 l10 => AG [(some (AV.sc (SV.fn 40 [(0, (0, 0))]))), (some (AV.sc (SV.slc 6 none b5))), (some (AV.sc (SV.int IntKind.i64 n7))), (some (AV.sc (SV.int IntKind.i64 n8)))] [(some (HE.mk false (HB.exp none [(SV.int IntKind.i64 n9), (SV.slc 1 none b6), (SV.int IntKind.i64 n10), (SV.slc 2 none b7), (SV.slc 3 none b8), (SV.str s1), (SV.int IntKind.i64 n11), (SV.int IntKind.i64 n12), (SV.int IntKind.i64 n13), (SV.slc 4 none b9), (SV.slc 5 none b10), (SV.int IntKind.i64 n14)]))), (some (HE.mk false (HB.rows (B.i64 l5)))), (some (HE.mk false (HB.rows (B.i64 l6)))), (some (HE.mk false (HB.rows (B.i64 l7)))), (some (HE.mk false (HB.rows (B.iPortValue l8)))), (some (HE.mk false (HB.rows (B.iPortValue l9)))), (some (HE.mk false (HB.rows (B.u8 l10))))])  (fun l12 => KL Ex.normal [(some (AV.sc (SV.slc 6 none b5)))] [(some (HE.mk false (HB.exp none [(SV.int IntKind.i64 n9), (SV.slc 1 none b6), (SV.int IntKind.i64 n10), (SV.slc 2 none b7), (SV.slc 3 none b8), (SV.str s1), (SV.int IntKind.i64 n11), (SV.int IntKind.i64 n12), (SV.int IntKind.i64 n13), (SV.slc 4 none b9), (SV.slc 5 none b10), (SV.int IntKind.i64 n14)]))), (some (HE.mk false (HB.rows (B.i64 l5)))), (some (HE.mk false (HB.rows (B.i64 l6)))), (some (HE.mk false (HB.rows (B.i64 l7)))), (some (HE.mk false (HB.rows (B.iPortValue l8)))), (some (HE.mk false (HB.rows (B.iPortValue l9)))), (some (HE.mk false (HB.rows (B.u8 l12))))]) := castPr (by kernel_rfl) (ea_se_impl_yframeSet_Fimpl_PackMachine_2_Wwwwww_0 N (g_impl_PackMachine_2_Wwwwww N) b5 n7 n9 b6 n10 b7 b8 s1 n11 n12 n13 b9 b10 n14 l5 l6 l7 l8 l9 n8 l10 AG KL)
theorem le_impl_yframeSet_Fimpl_PackMachine_2_Wwwwww_0 (N : Nat) {R : Type} (b5 : Bool) (n7 : Int) (n9 : Int) (b6 : Bool) (n10 : Int) (b7 : Bool) (b8 : Bool) (s1 : ByteArray) (n11 : Int) (n12 : Int) (n13 : Int) (b9 : Bool) (b10 : Bool) (n14 : Int) (l5 : List Int) (l6 : List Int) (l7 : List Int) (l8 : List PortValue) (l9 : List PortValue) (KL : Ex → List (Option AV) → Hp E → Option R) : ∀ (f : Nat), ∀ (n8 : Int) (l10 : List Int), iterK (E := E) (O_impl_yframeSet_Fimpl_PackMachine_2_Wwwwww N) (fun {R} => LI (noIt) 6 31 sl_impl_yframeSet_Fimpl_PackMachine_2_Wwwwww (R := R)) J_impl_yframeSet_Fimpl_PackMachine_2_Wwwwww 6 31 0 [1, 5, 11, 12] [5] (body Go.Proofs.Try.f39 0) f [(some (AV.sc (SV.fn 40 [(0, (0, 0))]))), (some (AV.sc (SV.slc 6 none b5))), (some (AV.sc (SV.int IntKind.i64 n7))), (some (AV.sc (SV.int IntKind.i64 n8)))] [(some (HE.mk false (HB.exp none [(SV.int IntKind.i64 n9), (SV.slc 1 none b6), (SV.int IntKind.i64 n10), (SV.slc 2 none b7), (SV.slc 3 none b8), (SV.str s1), (SV.int IntKind.i64 n11), (SV.int IntKind.i64 n12), (SV.int IntKind.i64 n13), (SV.slc 4 none b9), (SV.slc 5 none b10), (SV.int IntKind.i64 n14)]))), (some (HE.mk false (HB.rows (B.i64 l5)))), (some (HE.mk false (HB.rows (B.i64 l6)))), (some (HE.mk false (HB.rows (B.i64 l7)))), (some (HE.mk false (HB.rows (B.iPortValue l8)))), (some (HE.mk false (HB.rows (B.iPortValue l9)))), (some (HE.mk false (HB.rows (B.u8 l10))))] KL = l_impl_yframeSet_Fimpl_PackMachine_2_Wwwwww_0 N b5 n7 n9 b6 n10 b7 b8 s1 n11 n12 n13 b9 b10 n14 l5 l6 l7 l8 l9 (fun l12 => KL Ex.normal [(some (AV.sc (SV.slc 6 none b5)))] [(some (HE.mk false (HB.exp none [(SV.int IntKind.i64 n9), (SV.slc 1 none b6), (SV.int IntKind.i64 n10), (SV.slc 2 none b7), (SV.slc 3 none b8), (SV.str s1), (SV.int IntKind.i64 n11), (SV.int IntKind.i64 n12), (SV.int IntKind.i64 n13), (SV.slc 4 none b9), (SV.slc 5 none b10), (SV.int IntKind.i64 n14)]))), (some (HE.mk false (HB.rows (B.i64 l5)))), (some (HE.mk false (HB.rows (B.i64 l6)))), (some (HE.mk false (HB.rows (B.i64 l7)))), (some (HE.mk false (HB.rows (B.iPortValue l8)))), (some (HE.mk false (HB.rows (B.iPortValue l9)))), (some (HE.mk false (HB.rows (B.u8 l12))))]) f n8 l10 := by
  intro f
  induction f with
  | zero => intros; rfl
  | succ f ih =>
    intro n8 l10
    rw [iterK_succ, se_impl_yframeSet_Fimpl_PackMachine_2_Wwwwww_0]
    exact (congrArg (fun z0 => s_impl_yframeSet_Fimpl_PackMachine_2_Wwwwww_0 N b5 n7 n9 b6 n10 b7 b8 s1 n11 n12 n13 b9 b10 n14 l5 l6 l7 l8 l9 n8 l10 z0 (fun l12 => KL Ex.normal [(some (AV.sc (SV.slc 6 none b5)))] [(some (HE.mk false (HB.exp none [(SV.int IntKind.i64 n9), (SV.slc 1 none b6), (SV.int IntKind.i64 n10), (SV.slc 2 none b7), (SV.slc 3 none b8), (SV.str s1), (SV.int IntKind.i64 n11), (SV.int IntKind.i64 n12), (SV.int IntKind.i64 n13), (SV.slc 4 none b9), (SV.slc 5 none b10), (SV.int IntKind.i64 n14)]))), (some (HE.mk false (HB.rows (B.i64 l5)))), (some (HE.mk false (HB.rows (B.i64 l6)))), (some (HE.mk false (HB.rows (B.i64 l7)))), (some (HE.mk false (HB.rows (B.iPortValue l8)))), (some (HE.mk false (HB.rows (B.iPortValue l9)))), (some (HE.mk false (HB.rows (B.u8 l12))))])) (funext fun n8 => funext fun l10 => ih n8 l10))
noncomputable def i_impl_yframeSet_Fimpl_PackMachine_2_Wwwwww_0 (N : Nat) {R : Type} (vs : List (Option AV)) (H : Hp E) (KL : Ex → List (Option AV) → Hp E → Option R) : Option R :=
  match vs, H with
  | [(some (AV.sc (SV.fn 40 [(0, (0, 0))]))), (some (AV.sc (SV.slc 6 none b5))), (some (AV.sc (SV.int IntKind.i64 n7))), (some (AV.sc (SV.int IntKind.i64 n8)))], [(some (HE.mk false (HB.exp none [(SV.int IntKind.i64 n9), (SV.slc 1 none b6), (SV.int IntKind.i64 n10), (SV.slc 2 none b7), (SV.slc 3 none b8), (SV.str s1), (SV.int IntKind.i64 n11), (SV.int IntKind.i64 n12), (SV.int IntKind.i64 n13), (SV.slc 4 none b9), (SV.slc 5 none b10), (SV.int IntKind.i64 n14)]))), (some (HE.mk false (HB.rows (B.i64 l5)))), (some (HE.mk false (HB.rows (B.i64 l6)))), (some (HE.mk false (HB.rows (B.i64 l7)))), (some (HE.mk false (HB.rows (B.iPortValue l8)))), (some (HE.mk false (HB.rows (B.iPortValue l9)))), (some (HE.mk false (HB.rows (B.u8 l10))))] => c_impl_yframeSet_Fimpl_PackMachine_2_Wwwwww_0 N b5 n7 n9 b6 n10 b7 b8 s1 n11 n12 n13 b9 b10 n14 l5 l6 l7 l8 l9 n8 l10 (fun l13 => KL Ex.normal [(some (AV.sc (SV.slc 6 none b5)))] [(some (HE.mk false (HB.exp none [(SV.int IntKind.i64 n9), (SV.slc 1 none b6), (SV.int IntKind.i64 n10), (SV.slc 2 none b7), (SV.slc 3 none b8), (SV.str s1), (SV.int IntKind.i64 n11), (SV.int IntKind.i64 n12), (SV.int IntKind.i64 n13), (SV.slc 4 none b9), (SV.slc 5 none b10), (SV.int IntKind.i64 n14)]))), (some (HE.mk false (HB.rows (B.i64 l5)))), (some (HE.mk false (HB.rows (B.i64 l6)))), (some (HE.mk false (HB.rows (B.i64 l7)))), (some (HE.mk false (HB.rows (B.iPortValue l8)))), (some (HE.mk false (HB.rows (B.iPortValue l9)))), (some (HE.mk false (HB.rows (B.u8 l13))))])
  | _, _ => none
noncomputable def IT_impl_yframeSet_Fimpl_PackMachine_2_Wwwwww_0 (N : Nat) : Its E := addIt 0 (i_impl_yframeSet_Fimpl_PackMachine_2_Wwwwww_0 N) (noIt)
theorem IT_impl_yframeSet_Fimpl_PackMachine_2_Wwwwww_0_ok (N : Nat) : ItOk (IT_impl_yframeSet_Fimpl_PackMachine_2_Wwwwww_0 N) 6 31 sl_impl_yframeSet_Fimpl_PackMachine_2_Wwwwww (lsB Go.Proofs.Try.f39 [0]) :=
  addItB_ok (inner := []) ok (O_impl_yframeSet_Fimpl_PackMachine_2_Wwwwww_ok N) (jn_ok _ _ _) (noIt_ok) rfl (by kernel_rfl) rfl fun vs H KL r h => by
    unfold i_impl_yframeSet_Fimpl_PackMachine_2_Wwwwww_0 at h
    split at h
    · exact ⟨_, (le_impl_yframeSet_Fimpl_PackMachine_2_Wwwwww_0 N _ _ _ _ _ _ _ _ _ _ _ _ _ _ _ _ _ _ _ KL N _ _).trans h⟩
    · cases h
noncomputable def g_impl_yframeSet_Fimpl_PackMachine_2_Wwwwww (N : Nat) {R : Type} (n : Int) (n1 : Int) (b : Bool) (n2 : Int) (b1 : Bool) (b2 : Bool) (s : ByteArray) (n3 : Int) (n4 : Int) (n5 : Int) (b3 : Bool) (b4 : Bool) (n6 : Int) (l : List Int) (l1 : List Int) (l2 : List Int) (l3 : List PortValue) (l4 : List PortValue) (k : ByteArray → Option R) : Option R :=
  (cond (((decide (((IntKind.wrap IntKind.i64 (Int.tdiv (IntKind.wrap IntKind.i64 (n + (7 : Int))) (8 : Int))) = (IntKind.wrap IntKind.i64 (Int.tdiv (IntKind.wrap IntKind.i64 (n + (7 : Int))) (8 : Int)))))) && (decide (((0 : Int) ≤ (IntKind.wrap IntKind.i64 (Int.tdiv (IntKind.wrap IntKind.i64 (n + (7 : Int))) (8 : Int))))))) && (Go.Eng.roomOk (Int.toNat (IntKind.wrap IntKind.i64 (Int.tdiv (IntKind.wrap IntKind.i64 (n + (7 : Int))) (8 : Int)))) 1))
  (c_impl_yframeSet_Fimpl_PackMachine_2_Wwwwww_0 N false n n1 b n2 b1 b2 s n3 n4 n5 b3 b4 n6 l l1 l2 l3 l4 (0 : Int) (List.replicate (Int.toNat (IntKind.wrap IntKind.i64 (Int.tdiv (IntKind.wrap IntKind.i64 (n + (7 : Int))) (8 : Int)))) (0 : Int)) fun l11 =>
    (cond (Nat.ble (0 + (List.length l11)) (List.length l11))
    (k (Go.Eng.toBytes (Go.Eng.seg l11 0 (List.length l11))))
    none))
  none)
noncomputable def ga_g_impl_yframeSet_Fimpl_PackMachine_2_Wwwwww (N : Nat) (G_impl_PackMachine_2_Wwwwww : ∀ {R : Type} (n : Int) (n1 : Int) (b : Bool) (n2 : Int) (b1 : Bool) (b2 : Bool) (s : ByteArray) (n3 : Int) (n4 : Int) (n5 : Int) (b3 : Bool) (b4 : Bool) (n6 : Int) (l : List Int) (l1 : List Int) (l2 : List Int) (l3 : List PortValue) (l4 : List PortValue) (k : Bool → Option R), Option R) {R : Type} (n : Int) (n1 : Int) (b : Bool) (n2 : Int) (b1 : Bool) (b2 : Bool) (s : ByteArray) (n3 : Int) (n4 : Int) (n5 : Int) (b3 : Bool) (b4 : Bool) (n6 : Int) (l : List Int) (l1 : List Int) (l2 : List Int) (l3 : List PortValue) (l4 : List PortValue) (k : ByteArray → Option R) : Option R :=
  (cond (((decide (((IntKind.wrap IntKind.i64 (Int.tdiv (IntKind.wrap IntKind.i64 (n + (7 : Int))) (8 : Int))) = (IntKind.wrap IntKind.i64 (Int.tdiv (IntKind.wrap IntKind.i64 (n + (7 : Int))) (8 : Int)))))) && (decide (((0 : Int) ≤ (IntKind.wrap IntKind.i64 (Int.tdiv (IntKind.wrap IntKind.i64 (n + (7 : Int))) (8 : Int))))))) && (Go.Eng.roomOk (Int.toNat (IntKind.wrap IntKind.i64 (Int.tdiv (IntKind.wrap IntKind.i64 (n + (7 : Int))) (8 : Int)))) 1))
  (c_impl_yframeSet_Fimpl_PackMachine_2_Wwwwww_0 N false n n1 b n2 b1 b2 s n3 n4 n5 b3 b4 n6 l l1 l2 l3 l4 (0 : Int) (List.replicate (Int.toNat (IntKind.wrap IntKind.i64 (Int.tdiv (IntKind.wrap IntKind.i64 (n + (7 : Int))) (8 : Int)))) (0 : Int)) fun l11 =>
    (cond (Nat.ble (0 + (List.length l11)) (List.length l11))
    (k (Go.Eng.toBytes (Go.Eng.seg l11 0 (List.length l11))))
    none))
  none)
theorem ea_e_impl_yframeSet_Fimpl_PackMachine_2_Wwwwww (N : Nat) (G_impl_PackMachine_2_Wwwwww : ∀ {R : Type} (n : Int) (n1 : Int) (b : Bool) (n2 : Int) (b1 : Bool) (b2 : Bool) (s : ByteArray) (n3 : Int) (n4 : Int) (n5 : Int) (b3 : Bool) (b4 : Bool) (n6 : Int) (l : List Int) (l1 : List Int) (l2 : List Int) (l3 : List PortValue) (l4 : List PortValue) (k : Bool → Option R), Option R) {R : Type} (n : Int) (n1 : Int) (b : Bool) (n2 : Int) (b1 : Bool) (b2 : Bool) (s : ByteArray) (n3 : Int) (n4 : Int) (n5 : Int) (b3 : Bool) (b4 : Bool) (n6 : Int) (l : List Int) (l1 : List Int) (l2 : List Int) (l3 : List PortValue) (l4 : List PortValue) (K : AV → Hp E → Option R) :
    runFnI (E := E) (OA_impl_yframeSet_Fimpl_PackMachine_2_Wwwwww N G_impl_PackMachine_2_Wwwwww) (IT_impl_yframeSet_Fimpl_PackMachine_2_Wwwwww_0 N) sl_impl_yframeSet_Fimpl_PackMachine_2_Wwwwww J_impl_yframeSet_Fimpl_PackMachine_2_Wwwwww Go.Proofs.Try.f39 [(AV.sc (SV.int IntKind.i64 n)), (AV.sc (SV.fn 40 [(0, (0, 0))]))] [(some (HE.mk false (HB.exp none [(SV.int IntKind.i64 n1), (SV.slc 1 none b), (SV.int IntKind.i64 n2), (SV.slc 2 none b1), (SV.slc 3 none b2), (SV.str s), (SV.int IntKind.i64 n3), (SV.int IntKind.i64 n4), (SV.int IntKind.i64 n5), (SV.slc 4 none b3), (SV.slc 5 none b4), (SV.int IntKind.i64 n6)]))), (some (HE.mk false (HB.rows (B.i64 l)))), (some (HE.mk false (HB.rows (B.i64 l1)))), (some (HE.mk false (HB.rows (B.i64 l2)))), (some (HE.mk false (HB.rows (B.iPortValue l3)))), (some (HE.mk false (HB.rows (B.iPortValue l4))))] K =
      ga_g_impl_yframeSet_Fimpl_PackMachine_2_Wwwwww N G_impl_PackMachine_2_Wwwwww n n1 b n2 b1 b2 s n3 n4 n5 b3 b4 n6 l l1 l2 l3 l4 (fun s2 => K (AV.sc (SV.str s2)) [(some (HE.mk false (HB.exp none [(SV.int IntKind.i64 n1), (SV.slc 1 none b), (SV.int IntKind.i64 n2), (SV.slc 2 none b1), (SV.slc 3 none b2), (SV.str s), (SV.int IntKind.i64 n3), (SV.int IntKind.i64 n4), (SV.int IntKind.i64 n5), (SV.slc 4 none b3), (SV.slc 5 none b4), (SV.int IntKind.i64 n6)]))), (some (HE.mk false (HB.rows (B.i64 l)))), (some (HE.mk false (HB.rows (B.i64 l1)))), (some (HE.mk false (HB.rows (B.i64 l2)))), (some (HE.mk false (HB.rows (B.iPortValue l3)))), (some (HE.mk false (HB.rows (B.iPortValue l4))))]) := by kernel_rfl
theorem e_impl_yframeSet_Fimpl_PackMachine_2_Wwwwww (N : Nat) {R : Type} (n : Int) (n1 : Int) (b : Bool) (n2 : Int) (b1 : Bool) (b2 : Bool) (s : ByteArray) (n3 : Int) (n4 : Int) (n5 : Int) (b3 : Bool) (b4 : Bool) (n6 : Int) (l : List Int) (l1 : List Int) (l2 : List Int) (l3 : List PortValue) (l4 : List PortValue) (K : AV → Hp E → Option R) :
    runFnI (E := E) (O_impl_yframeSet_Fimpl_PackMachine_2_Wwwwww N) (IT_impl_yframeSet_Fimpl_PackMachine_2_Wwwwww_0 N) sl_impl_yframeSet_Fimpl_PackMachine_2_Wwwwww J_impl_yframeSet_Fimpl_PackMachine_2_Wwwwww Go.Proofs.Try.f39 [(AV.sc (SV.int IntKind.i64 n)), (AV.sc (SV.fn 40 [(0, (0, 0))]))] [(some (HE.mk false (HB.exp none [(SV.int IntKind.i64 n1), (SV.slc 1 none b), (SV.int IntKind.i64 n2), (SV.slc 2 none b1), (SV.slc 3 none b2), (SV.str s), (SV.int IntKind.i64 n3), (SV.int IntKind.i64 n4), (SV.int IntKind.i64 n5), (SV.slc 4 none b3), (SV.slc 5 none b4), (SV.int IntKind.i64 n6)]))), (some (HE.mk false (HB.rows (B.i64 l)))), (some (HE.mk false (HB.rows (B.i64 l1)))), (some (HE.mk false (HB.rows (B.i64 l2)))), (some (HE.mk false (HB.rows (B.iPortValue l3)))), (some (HE.mk false (HB.rows (B.iPortValue l4))))] K =
      g_impl_yframeSet_Fimpl_PackMachine_2_Wwwwww N n n1 b n2 b1 b2 s n3 n4 n5 b3 b4 n6 l l1 l2 l3 l4 (fun s2 => K (AV.sc (SV.str s2)) [(some (HE.mk false (HB.exp none [(SV.int IntKind.i64 n1), (SV.slc 1 none b), (SV.int IntKind.i64 n2), (SV.slc 2 none b1), (SV.slc 3 none b2), (SV.str s), (SV.int IntKind.i64 n3), (SV.int IntKind.i64 n4), (SV.int IntKind.i64 n5), (SV.slc 4 none b3), (SV.slc 5 none b4), (SV.int IntKind.i64 n6)]))), (some (HE.mk false (HB.rows (B.i64 l)))), (some (HE.mk false (HB.rows (B.i64 l1)))), (some (HE.mk false (HB.rows (B.i64 l2)))), (some (HE.mk false (HB.rows (B.iPortValue l3)))), (some (HE.mk false (HB.rows (B.iPortValue l4))))]) := castPr (by kernel_rfl) (ea_e_impl_yframeSet_Fimpl_PackMachine_2_Wwwwww N (g_impl_PackMachine_2_Wwwwww N) n n1 b n2 b1 b2 s n3 n4 n5 b3 b4 n6 l l1 l2 l3 l4 K)
noncomputable def o_impl_yframeSet_Fimpl_PackMachine_2_Wwwwww (N : Nat) {R : Type} (args : List AV) (H : Hp E) (K : AV → Hp E → Option R) : Option R :=
  match args, H with
  | [(AV.sc (SV.int IntKind.i64 n)), (AV.sc (SV.fn 40 [(0, (0, 0))]))], [(some (HE.mk false (HB.exp none [(SV.int IntKind.i64 n1), (SV.slc 1 none b), (SV.int IntKind.i64 n2), (SV.slc 2 none b1), (SV.slc 3 none b2), (SV.str s), (SV.int IntKind.i64 n3), (SV.int IntKind.i64 n4), (SV.int IntKind.i64 n5), (SV.slc 4 none b3), (SV.slc 5 none b4), (SV.int IntKind.i64 n6)]))), (some (HE.mk false (HB.rows (B.i64 l)))), (some (HE.mk false (HB.rows (B.i64 l1)))), (some (HE.mk false (HB.rows (B.i64 l2)))), (some (HE.mk false (HB.rows (B.iPortValue l3)))), (some (HE.mk false (HB.rows (B.iPortValue l4))))] => g_impl_yframeSet_Fimpl_PackMachine_2_Wwwwww N n n1 b n2 b1 b2 s n3 n4 n5 b3 b4 n6 l l1 l2 l3 l4 (fun s2 => K (AV.sc (SV.str s2)) [(some (HE.mk false (HB.exp none [(SV.int IntKind.i64 n1), (SV.slc 1 none b), (SV.int IntKind.i64 n2), (SV.slc 2 none b1), (SV.slc 3 none b2), (SV.str s), (SV.int IntKind.i64 n3), (SV.int IntKind.i64 n4), (SV.int IntKind.i64 n5), (SV.slc 4 none b3), (SV.slc 5 none b4), (SV.int IntKind.i64 n6)]))), (some (HE.mk false (HB.rows (B.i64 l)))), (some (HE.mk false (HB.rows (B.i64 l1)))), (some (HE.mk false (HB.rows (B.i64 l2)))), (some (HE.mk false (HB.rows (B.iPortValue l3)))), (some (HE.mk false (HB.rows (B.iPortValue l4))))])
  | _, _ => none
theorem o_impl_yframeSet_Fimpl_PackMachine_2_Wwwwww_ok (N : Nat) : FnOk E 39 (o_impl_yframeSet_Fimpl_PackMachine_2_Wwwwww N) := by
  intro R args H K r h
  unfold o_impl_yframeSet_Fimpl_PackMachine_2_Wwwwww at h
  dsimp only at h
  split at h
  · exact fnB_ok (ids := [0]) (top := [0]) ok (O_impl_yframeSet_Fimpl_PackMachine_2_Wwwwww_ok N) (jn_ok _ _ _) Go.Proofs.Try.func39 (by kernel_rfl) (IT := IT_impl_yframeSet_Fimpl_PackMachine_2_Wwwwww_0 N) (sl := sl_impl_yframeSet_Fimpl_PackMachine_2_Wwwwww) (J := J_impl_yframeSet_Fimpl_PackMachine_2_Wwwwww) (K := K) (H := [(some (HE.mk false (HB.exp none [(SV.int IntKind.i64 _), (SV.slc 1 none _), (SV.int IntKind.i64 _), (SV.slc 2 none _), (SV.slc 3 none _), (SV.str _), (SV.int IntKind.i64 _), (SV.int IntKind.i64 _), (SV.int IntKind.i64 _), (SV.slc 4 none _), (SV.slc 5 none _), (SV.int IntKind.i64 _)]))), (some (HE.mk false (HB.rows (B.i64 _)))), (some (HE.mk false (HB.rows (B.i64 _)))), (some (HE.mk false (HB.rows (B.i64 _)))), (some (HE.mk false (HB.rows (B.iPortValue _)))), (some (HE.mk false (HB.rows (B.iPortValue _))))]) (IT_impl_yframeSet_Fimpl_PackMachine_2_Wwwwww_0_ok N) (by kernel_rfl) rfl ((e_impl_yframeSet_Fimpl_PackMachine_2_Wwwwww N _ _ _ _ _ _ _ _ _ _ _ _ _ _ _ _ _ _ K).trans h)
  · cases h
/-! ### loop.example/g00038/impl.yhasBit -/
abbrev sl_impl_yhasBit : SlotT := []
abbrev J_impl_yhasBit : JT := jn [(1, [(4, .b)])] [] []
noncomputable def O_impl_yhasBit (N : Nat) : Orc E := noFn
theorem O_impl_yhasBit_ok (N : Nat) : OrcOk (O_impl_yhasBit N) := noFn_ok
noncomputable def g_impl_yhasBit (N : Nat) {R : Type} (s : ByteArray) (n : Int) (k : Bool → Option R) : Option R :=
  (oK (cond (decide ((n ≥ (0 : Int))))
    (cond (decide (((IntKind.wrap IntKind.i64 (Int.tdiv n (8 : Int))) < (((ByteArray.size s) : Nat) : Int))))
      (cond ((decide (((0 : Int) ≤ (IntKind.wrap IntKind.i64 (Int.tdiv n (8 : Int)))))) && (decide (((IntKind.wrap IntKind.i64 (Int.tdiv n (8 : Int))) < (((ByteArray.size s) : Nat) : Int)))))
        (cond (decide (((Int.tmod n (8 : Int)) < (0 : Int))))
          none
          (some ((IntKind.wrap IntKind.u8 (((BitVec.toNat ((BitVec.ofInt 8 (Int.fdiv (Go.Eng.bt s (Int.toNat (IntKind.wrap IntKind.i64 (Int.tdiv n (8 : Int))))) ((2 : Int) ^ (Min.min (Int.toNat (Int.tmod n (8 : Int))) 8)))) &&& (BitVec.ofInt 8 (1 : Int)))) : Nat) : Int)) == (1 : Int))))
        none)
      (some false))
    (some false)) fun j =>
  (k j))
theorem e_impl_yhasBit (N : Nat) {R : Type} (s : ByteArray) (n : Int) (K : AV → Hp E → Option R) :
    runFnI (E := E) (O_impl_yhasBit N) (noIt) sl_impl_yhasBit J_impl_yhasBit Go.Proofs.Try.f42 [(AV.sc (SV.str s)), (AV.sc (SV.int IntKind.i64 n))] [] K =
      g_impl_yhasBit N s n (fun b => K (AV.sc (SV.bool b)) []) := by kernel_rfl
noncomputable def o_impl_yhasBit (N : Nat) {R : Type} (args : List AV) (H : Hp E) (K : AV → Hp E → Option R) : Option R :=
  match args, H with
  | [(AV.sc (SV.str s)), (AV.sc (SV.int IntKind.i64 n))], [] => g_impl_yhasBit N s n (fun b => K (AV.sc (SV.bool b)) [])
  | _, _ => none
theorem o_impl_yhasBit_ok (N : Nat) : FnOk E 42 (o_impl_yhasBit N) := by
  intro R args H K r h
  unfold o_impl_yhasBit at h
  dsimp only at h
  split at h
  · exact fnB_ok (ids := []) (top := []) ok (O_impl_yhasBit_ok N) (jn_ok _ _ _) Go.Proofs.Try.func42 (by kernel_rfl) (IT := noIt) (sl := sl_impl_yhasBit) (J := J_impl_yhasBit) (K := K) (H := []) (noIt_ok) (by kernel_rfl) rfl ((e_impl_yhasBit N _ _ K).trans h)
  · cases h
end Go.Sa
