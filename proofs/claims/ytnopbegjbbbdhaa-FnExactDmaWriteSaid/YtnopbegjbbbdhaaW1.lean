import Derived.Test.YtnopbegjbbbdhaaSpec
import Derived.Test.YtnopbegjbbbdhaaPLb
import Derived.Test.YtnopbegjbbbdhaaW0
set_option linter.all false
namespace Go.Sa
open Go Go.Eng Go.Proofs
set_option maxRecDepth 100000
/-! ### loop.example/g00038/impl.DmaWrite -/
abbrev sl_impl_DmaWrite : SlotT := [(0, ([3, 8, 9, 11, 33, 34, 35], [8, 9, 11]))]
abbrev J_impl_DmaWrite : JT := jn [] [] [(9, [13])]
noncomputable def O_impl_DmaWrite (N : Nat) : Orc E := addFn 77 (o_impl_ydma N) (addFn 76 (o_impl_ybig_w N) (noFn))
theorem O_impl_DmaWrite_ok (N : Nat) : OrcOk (O_impl_DmaWrite N) := addFn_ok (o_impl_ydma_ok N) (addFn_ok (o_impl_ybig_w_ok N) (noFn_ok))
def s_impl_DmaWrite_0 (N : Nat) {R : Type} (b3 : Bool) (b4 : Bool) (n4 : Int) (n6 : Int) (n7 : Int) (s3 : ByteArray) (s4 : ByteArray) (n8 : Int) (n9 : Int) (s5 : ByteArray) (s6 : ByteArray) (l3 : List Go.Sa.A2i64) (s2 : ByteArray) (n5 : Int) (l2 : List Int) (ag : ByteArray → Int → (List Int) → Option R)  (kN : (List Int) → Option R) : Option R :=
  (cond (decide ((n5 < n4)))
  (cond ((decide (((0 : Int) ≤ n5))) && (decide ((n5 < (((List.length l3) : Nat) : Int)))))
    (elemK l3 (Int.toNat n5) fun x =>
      (cond (((decide (((0 : Int) ≤ (Go.Sa.A2i64.f0 x)))) && (decide (((Go.Sa.A2i64.f0 x) ≤ (Go.IntKind.wrap Go.IntKind.i64 ((Go.Sa.A2i64.f0 x) + (Go.Sa.A2i64.f1 x))))))) && (decide (((Go.IntKind.wrap Go.IntKind.i64 ((Go.Sa.A2i64.f0 x) + (Go.Sa.A2i64.f1 x))) ≤ (((List.length l2) : Nat) : Int)))))
      (cond ((decide (((0 : Int) ≤ (Go.Sa.A2i64.f1 x)))) && (decide (((Go.Sa.A2i64.f1 x) ≤ (((ByteArray.size s2) : Nat) : Int)))))
        (cond (Nat.ble (List.length (Go.Eng.ofBytes (ByteArray.extract s2 0 (Int.toNat (Go.Sa.A2i64.f1 x))))) ((Int.toNat (Go.IntKind.wrap Go.IntKind.i64 ((Go.Sa.A2i64.f0 x) + (Go.Sa.A2i64.f1 x)))) - (Int.toNat (Go.Sa.A2i64.f0 x))))
          (cond (Nat.ble ((Int.toNat (Go.Sa.A2i64.f0 x)) + (List.length (Go.Eng.ofBytes (ByteArray.extract s2 0 (Int.toNat (Go.Sa.A2i64.f1 x)))))) (List.length l2))
            (cond (((decide (((0 : Int) ≤ (Go.Sa.A2i64.f1 x)))) && (decide (((Go.Sa.A2i64.f1 x) ≤ (((ByteArray.size s2) : Nat) : Int))))) && (decide (((((ByteArray.size s2) : Nat) : Int) ≤ (((ByteArray.size s2) : Nat) : Int)))))
              (ag (ByteArray.extract s2 (Int.toNat (Go.Sa.A2i64.f1 x)) (Int.toNat (((ByteArray.size s2) : Nat) : Int))) (Go.IntKind.wrap Go.IntKind.i64 (n5 + (1 : Int))) (Go.Eng.splice l2 (Int.toNat (Go.Sa.A2i64.f0 x)) (Go.Eng.ofBytes (ByteArray.extract s2 0 (Int.toNat (Go.Sa.A2i64.f1 x))))))
              none)
            none)
          none)
        none)
      none))
    none)
  (kN l2))
def l_impl_DmaWrite_0 (N : Nat) {R : Type} (b3 : Bool) (b4 : Bool) (n4 : Int) (n6 : Int) (n7 : Int) (s3 : ByteArray) (s4 : ByteArray) (n8 : Int) (n9 : Int) (s5 : ByteArray) (s6 : ByteArray) (l3 : List Go.Sa.A2i64) (kN : (List Int) → Option R) : Nat → ByteArray → Int → (List Int) → Option R
  | 0, _, _, _ => none
  | f + 1, s2, n5, l2 => s_impl_DmaWrite_0 N b3 b4 n4 n6 n7 s3 s4 n8 n9 s5 s6 l3 s2 n5 l2 (fun s2 n5 l2 => l_impl_DmaWrite_0 N b3 b4 n4 n6 n7 s3 s4 n8 n9 s5 s6 l3 kN f s2 n5 l2)  kN
def c_impl_DmaWrite_0 (N : Nat) {R : Type} (b3 : Bool) (b4 : Bool) (n4 : Int) (n6 : Int) (n7 : Int) (s3 : ByteArray) (s4 : ByteArray) (n8 : Int) (n9 : Int) (s5 : ByteArray) (s6 : ByteArray) (l3 : List Go.Sa.A2i64) (s2 : ByteArray) (n5 : Int) (l2 : List Int) (kN : (List Int) → Option R) : Option R := l_impl_DmaWrite_0 N b3 b4 n4 n6 n7 s3 s4 n8 n9 s5 s6 l3 kN N s2 n5 l2
theorem se_impl_DmaWrite_0 (N : Nat) {R : Type} (b3 : Bool) (b4 : Bool) (n4 : Int) (n6 : Int) (n7 : Int) (s3 : ByteArray) (s4 : ByteArray) (n8 : Int) (n9 : Int) (s5 : ByteArray) (s6 : ByteArray) (l3 : List Go.Sa.A2i64) (s2 : ByteArray) (n5 : Int) (l2 : List Int) (AG : List (Option AV) → Hp E → Option R) (KL : Ex → List (Option AV) → Hp E → Option R) :
    iterStep (E := E) (O_impl_DmaWrite N) (fun {R} => LI (noIt) 0 62 sl_impl_DmaWrite (R := R)) J_impl_DmaWrite 0 62 0 [3, 8, 9, 11, 33, 34, 35] [8, 9, 11] (body Go.Proofs.Try.f24 0) AG KL [(Option.some (Go.Eng.AV.sc (Go.Eng.SV.str s2))), (Option.some (Go.Eng.AV.sc (Go.Eng.SV.ptr 0 0 0))), (Option.some (Go.Eng.AV.sc (Go.Eng.SV.slc 1 Option.none b3))), (Option.some (Go.Eng.AV.sc (Go.Eng.SV.ptr 2 0 0))), (Option.some (Go.Eng.AV.sc (Go.Eng.SV.slc 3 Option.none b4))), (Option.some (Go.Eng.AV.sc (Go.Eng.SV.int Go.IntKind.i64 n4))), (Option.some (Go.Eng.AV.sc (Go.Eng.SV.int Go.IntKind.i64 n5)))] [(Option.some (Go.Eng.HE.mk Bool.false (Go.Eng.HB.exp Option.none [(Go.Eng.SV.int Go.IntKind.i64 n6), (Go.Eng.SV.int Go.IntKind.i64 n7), (Go.Eng.SV.str s3), (Go.Eng.SV.str s4)]))), (Option.some (Go.Eng.HE.mk Bool.false (Go.Eng.HB.rows (Go.Sa.B.u8 l2)))), (Option.some (Go.Eng.HE.mk Bool.false (Go.Eng.HB.exp Option.none [(Go.Eng.SV.int Go.IntKind.i64 n8), (Go.Eng.SV.int Go.IntKind.i64 n9), (Go.Eng.SV.str s5), (Go.Eng.SV.str s6)]))), (Option.some (Go.Eng.HE.mk Bool.false (Go.Eng.HB.rows (Go.Sa.B.aA2i64 l3))))] =
      s_impl_DmaWrite_0 N b3 b4 n4 n6 n7 s3 s4 n8 n9 s5 s6 l3 s2 n5 l2 (fun s2 n5 l2 => AG [(Option.some (Go.Eng.AV.sc (Go.Eng.SV.str s2))), (Option.some (Go.Eng.AV.sc (Go.Eng.SV.ptr 0 0 0))), (Option.some (Go.Eng.AV.sc (Go.Eng.SV.slc 1 Option.none b3))), (Option.some (Go.Eng.AV.sc (Go.Eng.SV.ptr 2 0 0))), (Option.some (Go.Eng.AV.sc (Go.Eng.SV.slc 3 Option.none b4))), (Option.some (Go.Eng.AV.sc (Go.Eng.SV.int Go.IntKind.i64 n4))), (Option.some (Go.Eng.AV.sc (Go.Eng.SV.int Go.IntKind.i64 n5)))] [(Option.some (Go.Eng.HE.mk Bool.false (Go.Eng.HB.exp Option.none [(Go.Eng.SV.int Go.IntKind.i64 n6), (Go.Eng.SV.int Go.IntKind.i64 n7), (Go.Eng.SV.str s3), (Go.Eng.SV.str s4)]))), (Option.some (Go.Eng.HE.mk Bool.false (Go.Eng.HB.rows (Go.Sa.B.u8 l2)))), (Option.some (Go.Eng.HE.mk Bool.false (Go.Eng.HB.exp Option.none [(Go.Eng.SV.int Go.IntKind.i64 n8), (Go.Eng.SV.int Go.IntKind.i64 n9), (Go.Eng.SV.str s5), (Go.Eng.SV.str s6)]))), (Option.some (Go.Eng.HE.mk Bool.false (Go.Eng.HB.rows (Go.Sa.B.aA2i64 l3))))])  (fun l5 => KL Go.Eng.Ex.normal [(Option.some (Go.Eng.AV.sc (Go.Eng.SV.ptr 0 0 0))), (Option.some (Go.Eng.AV.sc (Go.Eng.SV.slc 1 Option.none b3))), (Option.some (Go.Eng.AV.sc (Go.Eng.SV.ptr 2 0 0)))] [(Option.some (Go.Eng.HE.mk Bool.false (Go.Eng.HB.exp Option.none [(Go.Eng.SV.int Go.IntKind.i64 n6), (Go.Eng.SV.int Go.IntKind.i64 n7), (Go.Eng.SV.str s3), (Go.Eng.SV.str s4)]))), (Option.some (Go.Eng.HE.mk Bool.false (Go.Eng.HB.rows (Go.Sa.B.u8 l5)))), (Option.some (Go.Eng.HE.mk Bool.false (Go.Eng.HB.exp Option.none [(Go.Eng.SV.int Go.IntKind.i64 n8), (Go.Eng.SV.int Go.IntKind.i64 n9), (Go.Eng.SV.str s5), (Go.Eng.SV.str s6)])))]) := by kernel_rfl
theorem le_impl_DmaWrite_0 (N : Nat) {R : Type} (b3 : Bool) (b4 : Bool) (n4 : Int) (n6 : Int) (n7 : Int) (s3 : ByteArray) (s4 : ByteArray) (n8 : Int) (n9 : Int) (s5 : ByteArray) (s6 : ByteArray) (l3 : List Go.Sa.A2i64) (KL : Ex → List (Option AV) → Hp E → Option R) : ∀ (f : Nat), ∀ (s2 : ByteArray) (n5 : Int) (l2 : List Int), iterK (E := E) (O_impl_DmaWrite N) (fun {R} => LI (noIt) 0 62 sl_impl_DmaWrite (R := R)) J_impl_DmaWrite 0 62 0 [3, 8, 9, 11, 33, 34, 35] [8, 9, 11] (body Go.Proofs.Try.f24 0) f [(Option.some (Go.Eng.AV.sc (Go.Eng.SV.str s2))), (Option.some (Go.Eng.AV.sc (Go.Eng.SV.ptr 0 0 0))), (Option.some (Go.Eng.AV.sc (Go.Eng.SV.slc 1 Option.none b3))), (Option.some (Go.Eng.AV.sc (Go.Eng.SV.ptr 2 0 0))), (Option.some (Go.Eng.AV.sc (Go.Eng.SV.slc 3 Option.none b4))), (Option.some (Go.Eng.AV.sc (Go.Eng.SV.int Go.IntKind.i64 n4))), (Option.some (Go.Eng.AV.sc (Go.Eng.SV.int Go.IntKind.i64 n5)))] [(Option.some (Go.Eng.HE.mk Bool.false (Go.Eng.HB.exp Option.none [(Go.Eng.SV.int Go.IntKind.i64 n6), (Go.Eng.SV.int Go.IntKind.i64 n7), (Go.Eng.SV.str s3), (Go.Eng.SV.str s4)]))), (Option.some (Go.Eng.HE.mk Bool.false (Go.Eng.HB.rows (Go.Sa.B.u8 l2)))), (Option.some (Go.Eng.HE.mk Bool.false (Go.Eng.HB.exp Option.none [(Go.Eng.SV.int Go.IntKind.i64 n8), (Go.Eng.SV.int Go.IntKind.i64 n9), (Go.Eng.SV.str s5), (Go.Eng.SV.str s6)]))), (Option.some (Go.Eng.HE.mk Bool.false (Go.Eng.HB.rows (Go.Sa.B.aA2i64 l3))))] KL = l_impl_DmaWrite_0 N b3 b4 n4 n6 n7 s3 s4 n8 n9 s5 s6 l3 (fun l5 => KL Go.Eng.Ex.normal [(Option.some (Go.Eng.AV.sc (Go.Eng.SV.ptr 0 0 0))), (Option.some (Go.Eng.AV.sc (Go.Eng.SV.slc 1 Option.none b3))), (Option.some (Go.Eng.AV.sc (Go.Eng.SV.ptr 2 0 0)))] [(Option.some (Go.Eng.HE.mk Bool.false (Go.Eng.HB.exp Option.none [(Go.Eng.SV.int Go.IntKind.i64 n6), (Go.Eng.SV.int Go.IntKind.i64 n7), (Go.Eng.SV.str s3), (Go.Eng.SV.str s4)]))), (Option.some (Go.Eng.HE.mk Bool.false (Go.Eng.HB.rows (Go.Sa.B.u8 l5)))), (Option.some (Go.Eng.HE.mk Bool.false (Go.Eng.HB.exp Option.none [(Go.Eng.SV.int Go.IntKind.i64 n8), (Go.Eng.SV.int Go.IntKind.i64 n9), (Go.Eng.SV.str s5), (Go.Eng.SV.str s6)])))]) f s2 n5 l2 := by
  intro f
  induction f with
  | zero => intros; rfl
  | succ f ih =>
    intro s2 n5 l2
    rw [iterK_succ, se_impl_DmaWrite_0]
    exact (congrArg (fun z0 => s_impl_DmaWrite_0 N b3 b4 n4 n6 n7 s3 s4 n8 n9 s5 s6 l3 s2 n5 l2 z0 (fun l5 => KL Go.Eng.Ex.normal [(Option.some (Go.Eng.AV.sc (Go.Eng.SV.ptr 0 0 0))), (Option.some (Go.Eng.AV.sc (Go.Eng.SV.slc 1 Option.none b3))), (Option.some (Go.Eng.AV.sc (Go.Eng.SV.ptr 2 0 0)))] [(Option.some (Go.Eng.HE.mk Bool.false (Go.Eng.HB.exp Option.none [(Go.Eng.SV.int Go.IntKind.i64 n6), (Go.Eng.SV.int Go.IntKind.i64 n7), (Go.Eng.SV.str s3), (Go.Eng.SV.str s4)]))), (Option.some (Go.Eng.HE.mk Bool.false (Go.Eng.HB.rows (Go.Sa.B.u8 l5)))), (Option.some (Go.Eng.HE.mk Bool.false (Go.Eng.HB.exp Option.none [(Go.Eng.SV.int Go.IntKind.i64 n8), (Go.Eng.SV.int Go.IntKind.i64 n9), (Go.Eng.SV.str s5), (Go.Eng.SV.str s6)])))])) (funext fun s2 => funext fun n5 => funext fun l2 => ih s2 n5 l2))
def i_impl_DmaWrite_0 (N : Nat) {R : Type} (vs : List (Option AV)) (H : Hp E) (KL : Ex → List (Option AV) → Hp E → Option R) : Option R :=
  match vs, H with
  | [(Option.some (Go.Eng.AV.sc (Go.Eng.SV.str s2))), (Option.some (Go.Eng.AV.sc (Go.Eng.SV.ptr 0 0 0))), (Option.some (Go.Eng.AV.sc (Go.Eng.SV.slc 1 Option.none b3))), (Option.some (Go.Eng.AV.sc (Go.Eng.SV.ptr 2 0 0))), (Option.some (Go.Eng.AV.sc (Go.Eng.SV.slc 3 Option.none b4))), (Option.some (Go.Eng.AV.sc (Go.Eng.SV.int Go.IntKind.i64 n4))), (Option.some (Go.Eng.AV.sc (Go.Eng.SV.int Go.IntKind.i64 n5)))], [(Option.some (Go.Eng.HE.mk Bool.false (Go.Eng.HB.exp Option.none [(Go.Eng.SV.int Go.IntKind.i64 n6), (Go.Eng.SV.int Go.IntKind.i64 n7), (Go.Eng.SV.str s3), (Go.Eng.SV.str s4)]))), (Option.some (Go.Eng.HE.mk Bool.false (Go.Eng.HB.rows (Go.Sa.B.u8 l2)))), (Option.some (Go.Eng.HE.mk Bool.false (Go.Eng.HB.exp Option.none [(Go.Eng.SV.int Go.IntKind.i64 n8), (Go.Eng.SV.int Go.IntKind.i64 n9), (Go.Eng.SV.str s5), (Go.Eng.SV.str s6)]))), (Option.some (Go.Eng.HE.mk Bool.false (Go.Eng.HB.rows (Go.Sa.B.aA2i64 l3))))] => c_impl_DmaWrite_0 N b3 b4 n4 n6 n7 s3 s4 n8 n9 s5 s6 l3 s2 n5 l2 (fun l6 => KL Go.Eng.Ex.normal [(Option.some (Go.Eng.AV.sc (Go.Eng.SV.ptr 0 0 0))), (Option.some (Go.Eng.AV.sc (Go.Eng.SV.slc 1 Option.none b3))), (Option.some (Go.Eng.AV.sc (Go.Eng.SV.ptr 2 0 0)))] [(Option.some (Go.Eng.HE.mk Bool.false (Go.Eng.HB.exp Option.none [(Go.Eng.SV.int Go.IntKind.i64 n6), (Go.Eng.SV.int Go.IntKind.i64 n7), (Go.Eng.SV.str s3), (Go.Eng.SV.str s4)]))), (Option.some (Go.Eng.HE.mk Bool.false (Go.Eng.HB.rows (Go.Sa.B.u8 l6)))), (Option.some (Go.Eng.HE.mk Bool.false (Go.Eng.HB.exp Option.none [(Go.Eng.SV.int Go.IntKind.i64 n8), (Go.Eng.SV.int Go.IntKind.i64 n9), (Go.Eng.SV.str s5), (Go.Eng.SV.str s6)])))])
  | _, _ => none
noncomputable def IT_impl_DmaWrite_0 (N : Nat) : Its E := addIt 0 (i_impl_DmaWrite_0 N) (noIt)
theorem IT_impl_DmaWrite_0_ok (N : Nat) : ItOk (IT_impl_DmaWrite_0 N) 0 62 sl_impl_DmaWrite (lsB Go.Proofs.Try.f24 [0]) :=
  addItB_ok (inner := []) ok (O_impl_DmaWrite_ok N) (jn_ok _ _ _) (noIt_ok) rfl (by kernel_rfl) rfl fun vs H KL r h => by
    unfold i_impl_DmaWrite_0 at h
    split at h
    · exact ⟨_, (le_impl_DmaWrite_0 N _ _ _ _ _ _ _ _ _ _ _ _ KL N _ _ _).trans h⟩
    · cases h
def g_impl_DmaWrite (N : Nat) {R : Type} (s : ByteArray) (n : Int) (n1 : Int) (s1 : ByteArray) (k : Int → Int → ByteArray → Option R) : Option R :=
  (g_impl_ybig_w N Bool.false [s, s1] fun b =>
  (cond b
  (k (2 : Int) (0 : Int) (ByteArray.mk (List.toArray [])))
  (g_impl_ydma N s n n1 (((ByteArray.size s1) : Nat) : Int) (2 : Int) fun b1 b2 n2 n3 l l1 =>
    (cond (n2 != (0 : Int))
    (k n2 n3 (ByteArray.mk (List.toArray [])))
    (c_impl_DmaWrite_0 N b1 b2 (((List.length l1) : Nat) : Int) (0 : Int) (0 : Int) (ByteArray.mk (List.toArray [])) (ByteArray.mk (List.toArray [])) n2 n3 (ByteArray.mk (List.toArray [])) (ByteArray.mk (List.toArray [])) l1 s1 (0 : Int) l fun l4 =>
      (cond (Nat.ble (0 + (List.length l4)) (List.length l4))
      (k n2 n3 (Go.Eng.toBytes (Go.Eng.seg l4 0 (List.length l4))))
      none))))))
theorem e_impl_DmaWrite (N : Nat) {R : Type} (s : ByteArray) (n : Int) (n1 : Int) (s1 : ByteArray) (K : AV → Hp E → Option R) :
    runFnI (E := E) (O_impl_DmaWrite N) (IT_impl_DmaWrite_0 N) sl_impl_DmaWrite J_impl_DmaWrite Go.Proofs.Try.f24 [(Go.Eng.AV.sc (Go.Eng.SV.str s)), (Go.Eng.AV.sc (Go.Eng.SV.int Go.IntKind.i64 n)), (Go.Eng.AV.sc (Go.Eng.SV.int Go.IntKind.i64 n1)), (Go.Eng.AV.sc (Go.Eng.SV.str s1))] [] K =
      g_impl_DmaWrite N s n n1 s1 (fun n10 n11 s7 => K (Go.Eng.AV.agg [(Go.Eng.SV.int Go.IntKind.i64 n10), (Go.Eng.SV.int Go.IntKind.i64 n11), (Go.Eng.SV.str (ByteArray.mk (List.toArray []))), (Go.Eng.SV.str s7)]) []) := by kernel_rfl
def o_impl_DmaWrite (N : Nat) {R : Type} (args : List AV) (H : Hp E) (K : AV → Hp E → Option R) : Option R :=
  match args, H with
  | [(Go.Eng.AV.sc (Go.Eng.SV.str s)), (Go.Eng.AV.sc (Go.Eng.SV.int Go.IntKind.i64 n)), (Go.Eng.AV.sc (Go.Eng.SV.int Go.IntKind.i64 n1)), (Go.Eng.AV.sc (Go.Eng.SV.str s1))], [] => g_impl_DmaWrite N s n n1 s1 (fun n10 n11 s7 => K (Go.Eng.AV.agg [(Go.Eng.SV.int Go.IntKind.i64 n10), (Go.Eng.SV.int Go.IntKind.i64 n11), (Go.Eng.SV.str (ByteArray.mk (List.toArray []))), (Go.Eng.SV.str s7)]) [])
  | _, _ => none
theorem o_impl_DmaWrite_ok (N : Nat) : FnOk E 24 (o_impl_DmaWrite N) := by
  intro R args H K r h
  unfold o_impl_DmaWrite at h
  dsimp only at h
  split at h
  · exact fnB_ok (ids := [0]) (top := [0]) ok (O_impl_DmaWrite_ok N) (jn_ok _ _ _) Go.Proofs.Try.func24 (by kernel_rfl) (IT := IT_impl_DmaWrite_0 N) (sl := sl_impl_DmaWrite) (J := J_impl_DmaWrite) (K := K) (H := []) (IT_impl_DmaWrite_0_ok N) (by kernel_rfl) rfl ((e_impl_DmaWrite N _ _ _ _ K).trans h)
  · cases h
/-! ### loop.example/g00038/laws.eqDma -/
abbrev sl_laws_eqDma : SlotT := []
abbrev J_laws_eqDma : JT := jn [] [] []
noncomputable def O_laws_eqDma (N : Nat) : Orc E := noFn
theorem O_laws_eqDma_ok (N : Nat) : OrcOk (O_laws_eqDma N) := noFn_ok
def g_laws_eqDma (N : Nat) {R : Type} (n : Int) (n1 : Int) (s : ByteArray) (s1 : ByteArray) (n2 : Int) (n3 : Int) (s2 : ByteArray) (s3 : ByteArray) (k : Bool → Option R) : Option R :=
  (cond (n != n2)
  (k Bool.false)
  (cond (n1 != n3)
    (k Bool.false)
    (cond (!(decide ((s = s2))))
      (k Bool.false)
      (cond (!(decide ((s1 = s3))))
        (k Bool.false)
        (k Bool.true)))))
theorem e_laws_eqDma (N : Nat) {R : Type} (n : Int) (n1 : Int) (s : ByteArray) (s1 : ByteArray) (n2 : Int) (n3 : Int) (s2 : ByteArray) (s3 : ByteArray) (K : AV → Hp E → Option R) :
    runFnI (E := E) (O_laws_eqDma N) (noIt) sl_laws_eqDma J_laws_eqDma Go.Proofs.Try.f22 [(Go.Eng.AV.agg [(Go.Eng.SV.int Go.IntKind.i64 n), (Go.Eng.SV.int Go.IntKind.i64 n1), (Go.Eng.SV.str s), (Go.Eng.SV.str s1)]), (Go.Eng.AV.agg [(Go.Eng.SV.int Go.IntKind.i64 n2), (Go.Eng.SV.int Go.IntKind.i64 n3), (Go.Eng.SV.str s2), (Go.Eng.SV.str s3)])] [] K =
      g_laws_eqDma N n n1 s s1 n2 n3 s2 s3 (fun b => K (Go.Eng.AV.sc (Go.Eng.SV.bool b)) []) := by kernel_rfl
def o_laws_eqDma (N : Nat) {R : Type} (args : List AV) (H : Hp E) (K : AV → Hp E → Option R) : Option R :=
  match args, H with
  | [(Go.Eng.AV.agg [(Go.Eng.SV.int Go.IntKind.i64 n), (Go.Eng.SV.int Go.IntKind.i64 n1), (Go.Eng.SV.str s), (Go.Eng.SV.str s1)]), (Go.Eng.AV.agg [(Go.Eng.SV.int Go.IntKind.i64 n2), (Go.Eng.SV.int Go.IntKind.i64 n3), (Go.Eng.SV.str s2), (Go.Eng.SV.str s3)])], [] => g_laws_eqDma N n n1 s s1 n2 n3 s2 s3 (fun b => K (Go.Eng.AV.sc (Go.Eng.SV.bool b)) [])
  | _, _ => none
theorem o_laws_eqDma_ok (N : Nat) : FnOk E 22 (o_laws_eqDma N) := by
  intro R args H K r h
  unfold o_laws_eqDma at h
  dsimp only at h
  split at h
  · exact fnB_ok (ids := []) (top := []) ok (O_laws_eqDma_ok N) (jn_ok _ _ _) Go.Proofs.Try.func22 (by kernel_rfl) (IT := noIt) (sl := sl_laws_eqDma) (J := J_laws_eqDma) (K := K) (H := []) (noIt_ok) (by kernel_rfl) rfl ((e_laws_eqDma N _ _ _ _ _ _ _ _ K).trans h)
  · cases h
/-! ### loop.example/g00038/laws.FnExactDmaWrite -/
abbrev sl_laws_FnExactDmaWrite : SlotT := []
abbrev J_laws_FnExactDmaWrite : JT := jn [] [] []
noncomputable def O_laws_FnExactDmaWrite (N : Nat) : Orc E := addFn 22 (o_laws_eqDma N) (addFn 24 (o_impl_DmaWrite N) (addFn 23 (o_spec_DmaWrite N) (noFn)))
theorem O_laws_FnExactDmaWrite_ok (N : Nat) : OrcOk (O_laws_FnExactDmaWrite N) := addFn_ok (o_laws_eqDma_ok N) (addFn_ok (o_impl_DmaWrite_ok N) (addFn_ok (o_spec_DmaWrite_ok N) (noFn_ok)))
def g_laws_FnExactDmaWrite (N : Nat) {R : Type} (s : ByteArray) (n : Int) (n1 : Int) (s1 : ByteArray) (k : Bool → Option R) : Option R :=
  (cond (decide (((((ByteArray.size s) : Nat) : Int) > (1048576 : Int))))
  (k Bool.true)
  (cond (decide (((((ByteArray.size s1) : Nat) : Int) > (1048576 : Int))))
    (k Bool.true)
    (g_spec_DmaWrite N s n n1 s1 fun n2 n3 s2 =>
      (g_impl_DmaWrite N s n n1 s1 fun n4 n5 s3 =>
      (g_laws_eqDma N n4 n5 (ByteArray.mk (List.toArray [])) s3 n2 n3 (ByteArray.mk (List.toArray [])) s2 fun b =>
      (cond (!b)
      (k Bool.false)
      (k Bool.true)))))))
theorem e_laws_FnExactDmaWrite (N : Nat) {R : Type} (s : ByteArray) (n : Int) (n1 : Int) (s1 : ByteArray) (K : AV → Hp E → Option R) :
    runFnI (E := E) (O_laws_FnExactDmaWrite N) (noIt) sl_laws_FnExactDmaWrite J_laws_FnExactDmaWrite Go.Proofs.Try.f5 [(Go.Eng.AV.sc (Go.Eng.SV.str s)), (Go.Eng.AV.sc (Go.Eng.SV.int Go.IntKind.i64 n)), (Go.Eng.AV.sc (Go.Eng.SV.int Go.IntKind.i64 n1)), (Go.Eng.AV.sc (Go.Eng.SV.str s1))] [] K =
      g_laws_FnExactDmaWrite N s n n1 s1 (fun b1 => K (Go.Eng.AV.sc (Go.Eng.SV.bool b1)) []) := by kernel_rfl
def o_laws_FnExactDmaWrite (N : Nat) {R : Type} (args : List AV) (H : Hp E) (K : AV → Hp E → Option R) : Option R :=
  match args, H with
  | [(Go.Eng.AV.sc (Go.Eng.SV.str s)), (Go.Eng.AV.sc (Go.Eng.SV.int Go.IntKind.i64 n)), (Go.Eng.AV.sc (Go.Eng.SV.int Go.IntKind.i64 n1)), (Go.Eng.AV.sc (Go.Eng.SV.str s1))], [] => g_laws_FnExactDmaWrite N s n n1 s1 (fun b1 => K (Go.Eng.AV.sc (Go.Eng.SV.bool b1)) [])
  | _, _ => none
theorem o_laws_FnExactDmaWrite_ok (N : Nat) : FnOk E 5 (o_laws_FnExactDmaWrite N) := by
  intro R args H K r h
  unfold o_laws_FnExactDmaWrite at h
  dsimp only at h
  split at h
  · exact fnB_ok (ids := []) (top := []) ok (O_laws_FnExactDmaWrite_ok N) (jn_ok _ _ _) Go.Proofs.Try.func5 (by kernel_rfl) (IT := noIt) (sl := sl_laws_FnExactDmaWrite) (J := J_laws_FnExactDmaWrite) (K := K) (H := []) (noIt_ok) (by kernel_rfl) rfl ((e_laws_FnExactDmaWrite N _ _ _ _ K).trans h)
  · cases h
end Go.Sa
