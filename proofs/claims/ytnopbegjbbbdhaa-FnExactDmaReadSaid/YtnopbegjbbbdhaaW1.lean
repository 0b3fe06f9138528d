import Derived.Test.YtnopbegjbbbdhaaSpec
import Derived.Test.YtnopbegjbbbdhaaPLb
import Derived.Test.YtnopbegjbbbdhaaW0
set_option linter.all false
namespace Go.Sa
open Go Go.Eng Go.Proofs
set_option maxRecDepth 100000
/-! ### loop.example/g00038/impl.DmaRead -/
abbrev sl_impl_DmaRead : SlotT := [(0, ([8, 9, 11, 31, 32, 33], [8, 9, 11]))]
abbrev J_impl_DmaRead : JT := jn [] [] []
noncomputable def O_impl_DmaRead (N : Nat) : Orc E := addFn 77 (o_impl_ydma N) (addFn 76 (o_impl_ybig_w N) (noFn))
theorem O_impl_DmaRead_ok (N : Nat) : OrcOk (O_impl_DmaRead N) := addFn_ok (o_impl_ydma_ok N) (addFn_ok (o_impl_ybig_w_ok N) (noFn_ok))
def s_impl_DmaRead_0 (N : Nat) {R : Type} (b3 : Bool) (b4 : Bool) (n5 : Int) (n7 : Int) (n8 : Int) (s1 : ByteArray) (s2 : ByteArray) (l2 : List Int) (n9 : Int) (n10 : Int) (s4 : ByteArray) (l3 : List Go.Sa.A2i64) (n6 : Int) (s3 : ByteArray) (ag : Int → ByteArray → Option R)  (kN : ByteArray → Option R) : Option R :=
  (cond (decide ((n6 < n5)))
  (cond ((decide (((0 : Int) ≤ n6))) && (decide ((n6 < (((List.length l3) : Nat) : Int)))))
    (elemK l3 (Int.toNat n6) fun x =>
      (cond (((decide (((0 : Int) ≤ (Go.Sa.A2i64.f0 x)))) && (decide (((Go.Sa.A2i64.f0 x) ≤ (Go.IntKind.wrap Go.IntKind.i64 ((Go.Sa.A2i64.f0 x) + (Go.Sa.A2i64.f1 x))))))) && (decide (((Go.IntKind.wrap Go.IntKind.i64 ((Go.Sa.A2i64.f0 x) + (Go.Sa.A2i64.f1 x))) ≤ (((List.length l2) : Nat) : Int)))))
      (cond (Nat.ble ((Int.toNat (Go.Sa.A2i64.f0 x)) + ((Int.toNat (Go.IntKind.wrap Go.IntKind.i64 ((Go.Sa.A2i64.f0 x) + (Go.Sa.A2i64.f1 x)))) - (Int.toNat (Go.Sa.A2i64.f0 x)))) (List.length l2))
        (cond (Nat.ble ((ByteArray.size s3) + (ByteArray.size (Go.Eng.toBytes (Go.Eng.seg l2 (Int.toNat (Go.Sa.A2i64.f0 x)) ((Int.toNat (Go.IntKind.wrap Go.IntKind.i64 ((Go.Sa.A2i64.f0 x) + (Go.Sa.A2i64.f1 x)))) - (Int.toNat (Go.Sa.A2i64.f0 x))))))) 9223372036854775807)
          (ag (Go.IntKind.wrap Go.IntKind.i64 (n6 + (1 : Int))) (s3 ++ (Go.Eng.toBytes (Go.Eng.seg l2 (Int.toNat (Go.Sa.A2i64.f0 x)) ((Int.toNat (Go.IntKind.wrap Go.IntKind.i64 ((Go.Sa.A2i64.f0 x) + (Go.Sa.A2i64.f1 x)))) - (Int.toNat (Go.Sa.A2i64.f0 x)))))))
          none)
        none)
      none))
    none)
  (kN s3))
def l_impl_DmaRead_0 (N : Nat) {R : Type} (b3 : Bool) (b4 : Bool) (n5 : Int) (n7 : Int) (n8 : Int) (s1 : ByteArray) (s2 : ByteArray) (l2 : List Int) (n9 : Int) (n10 : Int) (s4 : ByteArray) (l3 : List Go.Sa.A2i64) (kN : ByteArray → Option R) : Nat → Int → ByteArray → Option R
  | 0, _, _ => none
  | f + 1, n6, s3 => s_impl_DmaRead_0 N b3 b4 n5 n7 n8 s1 s2 l2 n9 n10 s4 l3 n6 s3 (fun n6 s3 => l_impl_DmaRead_0 N b3 b4 n5 n7 n8 s1 s2 l2 n9 n10 s4 l3 kN f n6 s3)  kN
def c_impl_DmaRead_0 (N : Nat) {R : Type} (b3 : Bool) (b4 : Bool) (n5 : Int) (n7 : Int) (n8 : Int) (s1 : ByteArray) (s2 : ByteArray) (l2 : List Int) (n9 : Int) (n10 : Int) (s4 : ByteArray) (l3 : List Go.Sa.A2i64) (n6 : Int) (s3 : ByteArray) (kN : ByteArray → Option R) : Option R := l_impl_DmaRead_0 N b3 b4 n5 n7 n8 s1 s2 l2 n9 n10 s4 l3 kN N n6 s3
theorem se_impl_DmaRead_0 (N : Nat) {R : Type} (b3 : Bool) (b4 : Bool) (n5 : Int) (n7 : Int) (n8 : Int) (s1 : ByteArray) (s2 : ByteArray) (l2 : List Int) (n9 : Int) (n10 : Int) (s4 : ByteArray) (l3 : List Go.Sa.A2i64) (n6 : Int) (s3 : ByteArray) (AG : List (Option AV) → Hp E → Option R) (KL : Ex → List (Option AV) → Hp E → Option R) :
    iterStep (E := E) (O_impl_DmaRead N) (fun {R} => LI (noIt) 0 56 sl_impl_DmaRead (R := R)) J_impl_DmaRead 0 56 0 [8, 9, 11, 31, 32, 33] [8, 9, 11] (body Go.Proofs.Try.f21 0) AG KL [(Option.some (Go.Eng.AV.sc (Go.Eng.SV.ptr 0 0 0))), (Option.some (Go.Eng.AV.sc (Go.Eng.SV.slc 1 Option.none b3))), (Option.some (Go.Eng.AV.sc (Go.Eng.SV.ptr 2 0 0))), (Option.some (Go.Eng.AV.sc (Go.Eng.SV.slc 3 Option.none b4))), (Option.some (Go.Eng.AV.sc (Go.Eng.SV.int Go.IntKind.i64 n5))), (Option.some (Go.Eng.AV.sc (Go.Eng.SV.int Go.IntKind.i64 n6)))] [(Option.some (Go.Eng.HE.mk Bool.false (Go.Eng.HB.exp Option.none [(Go.Eng.SV.int Go.IntKind.i64 n7), (Go.Eng.SV.int Go.IntKind.i64 n8), (Go.Eng.SV.str s1), (Go.Eng.SV.str s2)]))), (Option.some (Go.Eng.HE.mk Bool.false (Go.Eng.HB.rows (Go.Sa.B.u8 l2)))), (Option.some (Go.Eng.HE.mk Bool.false (Go.Eng.HB.exp Option.none [(Go.Eng.SV.int Go.IntKind.i64 n9), (Go.Eng.SV.int Go.IntKind.i64 n10), (Go.Eng.SV.str s3), (Go.Eng.SV.str s4)]))), (Option.some (Go.Eng.HE.mk Bool.false (Go.Eng.HB.rows (Go.Sa.B.aA2i64 l3))))] =
      s_impl_DmaRead_0 N b3 b4 n5 n7 n8 s1 s2 l2 n9 n10 s4 l3 n6 s3 (fun n6 s3 => AG [(Option.some (Go.Eng.AV.sc (Go.Eng.SV.ptr 0 0 0))), (Option.some (Go.Eng.AV.sc (Go.Eng.SV.slc 1 Option.none b3))), (Option.some (Go.Eng.AV.sc (Go.Eng.SV.ptr 2 0 0))), (Option.some (Go.Eng.AV.sc (Go.Eng.SV.slc 3 Option.none b4))), (Option.some (Go.Eng.AV.sc (Go.Eng.SV.int Go.IntKind.i64 n5))), (Option.some (Go.Eng.AV.sc (Go.Eng.SV.int Go.IntKind.i64 n6)))] [(Option.some (Go.Eng.HE.mk Bool.false (Go.Eng.HB.exp Option.none [(Go.Eng.SV.int Go.IntKind.i64 n7), (Go.Eng.SV.int Go.IntKind.i64 n8), (Go.Eng.SV.str s1), (Go.Eng.SV.str s2)]))), (Option.some (Go.Eng.HE.mk Bool.false (Go.Eng.HB.rows (Go.Sa.B.u8 l2)))), (Option.some (Go.Eng.HE.mk Bool.false (Go.Eng.HB.exp Option.none [(Go.Eng.SV.int Go.IntKind.i64 n9), (Go.Eng.SV.int Go.IntKind.i64 n10), (Go.Eng.SV.str s3), (Go.Eng.SV.str s4)]))), (Option.some (Go.Eng.HE.mk Bool.false (Go.Eng.HB.rows (Go.Sa.B.aA2i64 l3))))])  (fun s8 => KL Go.Eng.Ex.normal [(Option.some (Go.Eng.AV.sc (Go.Eng.SV.ptr 0 0 0))), (Option.some (Go.Eng.AV.sc (Go.Eng.SV.slc 1 Option.none b3))), (Option.some (Go.Eng.AV.sc (Go.Eng.SV.ptr 2 0 0)))] [(Option.some (Go.Eng.HE.mk Bool.false (Go.Eng.HB.exp Option.none [(Go.Eng.SV.int Go.IntKind.i64 n7), (Go.Eng.SV.int Go.IntKind.i64 n8), (Go.Eng.SV.str s1), (Go.Eng.SV.str s2)]))), (Option.some (Go.Eng.HE.mk Bool.false (Go.Eng.HB.rows (Go.Sa.B.u8 l2)))), (Option.some (Go.Eng.HE.mk Bool.false (Go.Eng.HB.exp Option.none [(Go.Eng.SV.int Go.IntKind.i64 n9), (Go.Eng.SV.int Go.IntKind.i64 n10), (Go.Eng.SV.str s8), (Go.Eng.SV.str s4)])))]) := by kernel_rfl
theorem le_impl_DmaRead_0 (N : Nat) {R : Type} (b3 : Bool) (b4 : Bool) (n5 : Int) (n7 : Int) (n8 : Int) (s1 : ByteArray) (s2 : ByteArray) (l2 : List Int) (n9 : Int) (n10 : Int) (s4 : ByteArray) (l3 : List Go.Sa.A2i64) (KL : Ex → List (Option AV) → Hp E → Option R) : ∀ (f : Nat), ∀ (n6 : Int) (s3 : ByteArray), iterK (E := E) (O_impl_DmaRead N) (fun {R} => LI (noIt) 0 56 sl_impl_DmaRead (R := R)) J_impl_DmaRead 0 56 0 [8, 9, 11, 31, 32, 33] [8, 9, 11] (body Go.Proofs.Try.f21 0) f [(Option.some (Go.Eng.AV.sc (Go.Eng.SV.ptr 0 0 0))), (Option.some (Go.Eng.AV.sc (Go.Eng.SV.slc 1 Option.none b3))), (Option.some (Go.Eng.AV.sc (Go.Eng.SV.ptr 2 0 0))), (Option.some (Go.Eng.AV.sc (Go.Eng.SV.slc 3 Option.none b4))), (Option.some (Go.Eng.AV.sc (Go.Eng.SV.int Go.IntKind.i64 n5))), (Option.some (Go.Eng.AV.sc (Go.Eng.SV.int Go.IntKind.i64 n6)))] [(Option.some (Go.Eng.HE.mk Bool.false (Go.Eng.HB.exp Option.none [(Go.Eng.SV.int Go.IntKind.i64 n7), (Go.Eng.SV.int Go.IntKind.i64 n8), (Go.Eng.SV.str s1), (Go.Eng.SV.str s2)]))), (Option.some (Go.Eng.HE.mk Bool.false (Go.Eng.HB.rows (Go.Sa.B.u8 l2)))), (Option.some (Go.Eng.HE.mk Bool.false (Go.Eng.HB.exp Option.none [(Go.Eng.SV.int Go.IntKind.i64 n9), (Go.Eng.SV.int Go.IntKind.i64 n10), (Go.Eng.SV.str s3), (Go.Eng.SV.str s4)]))), (Option.some (Go.Eng.HE.mk Bool.false (Go.Eng.HB.rows (Go.Sa.B.aA2i64 l3))))] KL = l_impl_DmaRead_0 N b3 b4 n5 n7 n8 s1 s2 l2 n9 n10 s4 l3 (fun s8 => KL Go.Eng.Ex.normal [(Option.some (Go.Eng.AV.sc (Go.Eng.SV.ptr 0 0 0))), (Option.some (Go.Eng.AV.sc (Go.Eng.SV.slc 1 Option.none b3))), (Option.some (Go.Eng.AV.sc (Go.Eng.SV.ptr 2 0 0)))] [(Option.some (Go.Eng.HE.mk Bool.false (Go.Eng.HB.exp Option.none [(Go.Eng.SV.int Go.IntKind.i64 n7), (Go.Eng.SV.int Go.IntKind.i64 n8), (Go.Eng.SV.str s1), (Go.Eng.SV.str s2)]))), (Option.some (Go.Eng.HE.mk Bool.false (Go.Eng.HB.rows (Go.Sa.B.u8 l2)))), (Option.some (Go.Eng.HE.mk Bool.false (Go.Eng.HB.exp Option.none [(Go.Eng.SV.int Go.IntKind.i64 n9), (Go.Eng.SV.int Go.IntKind.i64 n10), (Go.Eng.SV.str s8), (Go.Eng.SV.str s4)])))]) f n6 s3 := by
  intro f
  induction f with
  | zero => intros; rfl
  | succ f ih =>
    intro n6 s3
    rw [iterK_succ, se_impl_DmaRead_0]
    exact (congrArg (fun z0 => s_impl_DmaRead_0 N b3 b4 n5 n7 n8 s1 s2 l2 n9 n10 s4 l3 n6 s3 z0 (fun s8 => KL Go.Eng.Ex.normal [(Option.some (Go.Eng.AV.sc (Go.Eng.SV.ptr 0 0 0))), (Option.some (Go.Eng.AV.sc (Go.Eng.SV.slc 1 Option.none b3))), (Option.some (Go.Eng.AV.sc (Go.Eng.SV.ptr 2 0 0)))] [(Option.some (Go.Eng.HE.mk Bool.false (Go.Eng.HB.exp Option.none [(Go.Eng.SV.int Go.IntKind.i64 n7), (Go.Eng.SV.int Go.IntKind.i64 n8), (Go.Eng.SV.str s1), (Go.Eng.SV.str s2)]))), (Option.some (Go.Eng.HE.mk Bool.false (Go.Eng.HB.rows (Go.Sa.B.u8 l2)))), (Option.some (Go.Eng.HE.mk Bool.false (Go.Eng.HB.exp Option.none [(Go.Eng.SV.int Go.IntKind.i64 n9), (Go.Eng.SV.int Go.IntKind.i64 n10), (Go.Eng.SV.str s8), (Go.Eng.SV.str s4)])))])) (funext fun n6 => funext fun s3 => ih n6 s3))
def i_impl_DmaRead_0 (N : Nat) {R : Type} (vs : List (Option AV)) (H : Hp E) (KL : Ex → List (Option AV) → Hp E → Option R) : Option R :=
  match vs, H with
  | [(Option.some (Go.Eng.AV.sc (Go.Eng.SV.ptr 0 0 0))), (Option.some (Go.Eng.AV.sc (Go.Eng.SV.slc 1 Option.none b3))), (Option.some (Go.Eng.AV.sc (Go.Eng.SV.ptr 2 0 0))), (Option.some (Go.Eng.AV.sc (Go.Eng.SV.slc 3 Option.none b4))), (Option.some (Go.Eng.AV.sc (Go.Eng.SV.int Go.IntKind.i64 n5))), (Option.some (Go.Eng.AV.sc (Go.Eng.SV.int Go.IntKind.i64 n6)))], [(Option.some (Go.Eng.HE.mk Bool.false (Go.Eng.HB.exp Option.none [(Go.Eng.SV.int Go.IntKind.i64 n7), (Go.Eng.SV.int Go.IntKind.i64 n8), (Go.Eng.SV.str s1), (Go.Eng.SV.str s2)]))), (Option.some (Go.Eng.HE.mk Bool.false (Go.Eng.HB.rows (Go.Sa.B.u8 l2)))), (Option.some (Go.Eng.HE.mk Bool.false (Go.Eng.HB.exp Option.none [(Go.Eng.SV.int Go.IntKind.i64 n9), (Go.Eng.SV.int Go.IntKind.i64 n10), (Go.Eng.SV.str s3), (Go.Eng.SV.str s4)]))), (Option.some (Go.Eng.HE.mk Bool.false (Go.Eng.HB.rows (Go.Sa.B.aA2i64 l3))))] => c_impl_DmaRead_0 N b3 b4 n5 n7 n8 s1 s2 l2 n9 n10 s4 l3 n6 s3 (fun s9 => KL Go.Eng.Ex.normal [(Option.some (Go.Eng.AV.sc (Go.Eng.SV.ptr 0 0 0))), (Option.some (Go.Eng.AV.sc (Go.Eng.SV.slc 1 Option.none b3))), (Option.some (Go.Eng.AV.sc (Go.Eng.SV.ptr 2 0 0)))] [(Option.some (Go.Eng.HE.mk Bool.false (Go.Eng.HB.exp Option.none [(Go.Eng.SV.int Go.IntKind.i64 n7), (Go.Eng.SV.int Go.IntKind.i64 n8), (Go.Eng.SV.str s1), (Go.Eng.SV.str s2)]))), (Option.some (Go.Eng.HE.mk Bool.false (Go.Eng.HB.rows (Go.Sa.B.u8 l2)))), (Option.some (Go.Eng.HE.mk Bool.false (Go.Eng.HB.exp Option.none [(Go.Eng.SV.int Go.IntKind.i64 n9), (Go.Eng.SV.int Go.IntKind.i64 n10), (Go.Eng.SV.str s9), (Go.Eng.SV.str s4)])))])
  | _, _ => none
noncomputable def IT_impl_DmaRead_0 (N : Nat) : Its E := addIt 0 (i_impl_DmaRead_0 N) (noIt)
theorem IT_impl_DmaRead_0_ok (N : Nat) : ItOk (IT_impl_DmaRead_0 N) 0 56 sl_impl_DmaRead (lsB Go.Proofs.Try.f21 [0]) :=
  addItB_ok (inner := []) ok (O_impl_DmaRead_ok N) (jn_ok _ _ _) (noIt_ok) rfl (by kernel_rfl) rfl fun vs H KL r h => by
    unfold i_impl_DmaRead_0 at h
    split at h
    · exact ⟨_, (le_impl_DmaRead_0 N _ _ _ _ _ _ _ _ _ _ _ _ KL N _ _).trans h⟩
    · cases h
def g_impl_DmaRead (N : Nat) {R : Type} (s : ByteArray) (n : Int) (n1 : Int) (n2 : Int) (k : Int → Int → ByteArray → ByteArray → Option R) : Option R :=
  (g_impl_ybig_w N Bool.false [s] fun b =>
  (cond b
  (k (2 : Int) (0 : Int) (ByteArray.mk (List.toArray [])) (ByteArray.mk (List.toArray [])))
  (g_impl_ydma N s n n1 n2 (1 : Int) fun b1 b2 n3 n4 l l1 =>
    (cond (n3 != (0 : Int))
    (k n3 n4 (ByteArray.mk (List.toArray [])) (ByteArray.mk (List.toArray [])))
    (c_impl_DmaRead_0 N b1 b2 (((List.length l1) : Nat) : Int) (0 : Int) (0 : Int) (ByteArray.mk (List.toArray [])) (ByteArray.mk (List.toArray [])) l n3 n4 (ByteArray.mk (List.toArray [])) l1 (0 : Int) (ByteArray.mk (List.toArray [])) fun s5 =>
      (cond (Nat.ble (0 + (List.length l)) (List.length l))
      (k n3 n4 s5 (Go.Eng.toBytes (Go.Eng.seg l 0 (List.length l))))
      none))))))
theorem e_impl_DmaRead (N : Nat) {R : Type} (s : ByteArray) (n : Int) (n1 : Int) (n2 : Int) (K : AV → Hp E → Option R) :
    runFnI (E := E) (O_impl_DmaRead N) (IT_impl_DmaRead_0 N) sl_impl_DmaRead J_impl_DmaRead Go.Proofs.Try.f21 [(Go.Eng.AV.sc (Go.Eng.SV.str s)), (Go.Eng.AV.sc (Go.Eng.SV.int Go.IntKind.i64 n)), (Go.Eng.AV.sc (Go.Eng.SV.int Go.IntKind.i64 n1)), (Go.Eng.AV.sc (Go.Eng.SV.int Go.IntKind.i64 n2))] [] K =
      g_impl_DmaRead N s n n1 n2 (fun n11 n12 s6 s7 => K (Go.Eng.AV.agg [(Go.Eng.SV.int Go.IntKind.i64 n11), (Go.Eng.SV.int Go.IntKind.i64 n12), (Go.Eng.SV.str s6), (Go.Eng.SV.str s7)]) []) := by kernel_rfl
def o_impl_DmaRead (N : Nat) {R : Type} (args : List AV) (H : Hp E) (K : AV → Hp E → Option R) : Option R :=
  match args, H with
  | [(Go.Eng.AV.sc (Go.Eng.SV.str s)), (Go.Eng.AV.sc (Go.Eng.SV.int Go.IntKind.i64 n)), (Go.Eng.AV.sc (Go.Eng.SV.int Go.IntKind.i64 n1)), (Go.Eng.AV.sc (Go.Eng.SV.int Go.IntKind.i64 n2))], [] => g_impl_DmaRead N s n n1 n2 (fun n11 n12 s6 s7 => K (Go.Eng.AV.agg [(Go.Eng.SV.int Go.IntKind.i64 n11), (Go.Eng.SV.int Go.IntKind.i64 n12), (Go.Eng.SV.str s6), (Go.Eng.SV.str s7)]) [])
  | _, _ => none
theorem o_impl_DmaRead_ok (N : Nat) : FnOk E 21 (o_impl_DmaRead N) := by
  intro R args H K r h
  unfold o_impl_DmaRead at h
  dsimp only at h
  split at h
  · exact fnB_ok (ids := [0]) (top := [0]) ok (O_impl_DmaRead_ok N) (jn_ok _ _ _) Go.Proofs.Try.func21 (by kernel_rfl) (IT := IT_impl_DmaRead_0 N) (sl := sl_impl_DmaRead) (J := J_impl_DmaRead) (K := K) (H := []) (IT_impl_DmaRead_0_ok N) (by kernel_rfl) rfl ((e_impl_DmaRead N _ _ _ _ K).trans h)
  · cases h
/-! ### loop.example/g00038/laws.eqDma -/
abbrev sl_laws_eqDma : SlotT := []
abbrev J_laws_eqDma : JT := jn [] [] []
noncomputable def O_laws_eqDma (N : Nat) : Orc E := noFn
theorem O_laws_eqDma_ok (N : Nat) : OrcOk (O_laws_eqDma N) := noFn_ok
def g_laws_eqDma (N : Nat) {R : Type} (n : Int) (n1 : Int) (s : ByteArray) (s1 : ByteArray) (n2 : Int) (n3 : Int) (s2 : ByteArray) (s3 : ByteArray) (k : Bool → Option R) : Option R :=
  (cond (n != n2)
  (k Bool.false)
  (cond (n1 != n3)
    (k Bool.false)
    (cond (!(decide ((s = s2))))
      (k Bool.false)
      (cond (!(decide ((s1 = s3))))
        (k Bool.false)
        (k Bool.true)))))
theorem e_laws_eqDma (N : Nat) {R : Type} (n : Int) (n1 : Int) (s : ByteArray) (s1 : ByteArray) (n2 : Int) (n3 : Int) (s2 : ByteArray) (s3 : ByteArray) (K : AV → Hp E → Option R) :
    runFnI (E := E) (O_laws_eqDma N) (noIt) sl_laws_eqDma J_laws_eqDma Go.Proofs.Try.f22 [(Go.Eng.AV.agg [(Go.Eng.SV.int Go.IntKind.i64 n), (Go.Eng.SV.int Go.IntKind.i64 n1), (Go.Eng.SV.str s), (Go.Eng.SV.str s1)]), (Go.Eng.AV.agg [(Go.Eng.SV.int Go.IntKind.i64 n2), (Go.Eng.SV.int Go.IntKind.i64 n3), (Go.Eng.SV.str s2), (Go.Eng.SV.str s3)])] [] K =
      g_laws_eqDma N n n1 s s1 n2 n3 s2 s3 (fun b => K (Go.Eng.AV.sc (Go.Eng.SV.bool b)) []) := by kernel_rfl
def o_laws_eqDma (N : Nat) {R : Type} (args : List AV) (H : Hp E) (K : AV → Hp E → Option R) : Option R :=
  match args, H with
  | [(Go.Eng.AV.agg [(Go.Eng.SV.int Go.IntKind.i64 n), (Go.Eng.SV.int Go.IntKind.i64 n1), (Go.Eng.SV.str s), (Go.Eng.SV.str s1)]), (Go.Eng.AV.agg [(Go.Eng.SV.int Go.IntKind.i64 n2), (Go.Eng.SV.int Go.IntKind.i64 n3), (Go.Eng.SV.str s2), (Go.Eng.SV.str s3)])], [] => g_laws_eqDma N n n1 s s1 n2 n3 s2 s3 (fun b => K (Go.Eng.AV.sc (Go.Eng.SV.bool b)) [])
  | _, _ => none
theorem o_laws_eqDma_ok (N : Nat) : FnOk E 22 (o_laws_eqDma N) := by
  intro R args H K r h
  unfold o_laws_eqDma at h
  dsimp only at h
  split at h
  · exact fnB_ok (ids := []) (top := []) ok (O_laws_eqDma_ok N) (jn_ok _ _ _) Go.Proofs.Try.func22 (by kernel_rfl) (IT := noIt) (sl := sl_laws_eqDma) (J := J_laws_eqDma) (K := K) (H := []) (noIt_ok) (by kernel_rfl) rfl ((e_laws_eqDma N _ _ _ _ _ _ _ _ K).trans h)
  · cases h
/-! ### loop.example/g00038/laws.FnExactDmaRead -/
abbrev sl_laws_FnExactDmaRead : SlotT := []
abbrev J_laws_FnExactDmaRead : JT := jn [] [] []
noncomputable def O_laws_FnExactDmaRead (N : Nat) : Orc E := addFn 22 (o_laws_eqDma N) (addFn 21 (o_impl_DmaRead N) (addFn 20 (o_spec_DmaRead N) (noFn)))
theorem O_laws_FnExactDmaRead_ok (N : Nat) : OrcOk (O_laws_FnExactDmaRead N) := addFn_ok (o_laws_eqDma_ok N) (addFn_ok (o_impl_DmaRead_ok N) (addFn_ok (o_spec_DmaRead_ok N) (noFn_ok)))
def g_laws_FnExactDmaRead (N : Nat) {R : Type} (s : ByteArray) (n : Int) (n1 : Int) (n2 : Int) (k : Bool → Option R) : Option R :=
  (cond (decide (((((ByteArray.size s) : Nat) : Int) > (1048576 : Int))))
  (k Bool.true)
  (g_spec_DmaRead N s n n1 n2 fun n3 n4 s1 s2 =>
    (g_impl_DmaRead N s n n1 n2 fun n5 n6 s3 s4 =>
    (g_laws_eqDma N n5 n6 s3 s4 n3 n4 s1 s2 fun b =>
    (cond (!b)
    (k Bool.false)
    (k Bool.true))))))
theorem e_laws_FnExactDmaRead (N : Nat) {R : Type} (s : ByteArray) (n : Int) (n1 : Int) (n2 : Int) (K : AV → Hp E → Option R) :
    runFnI (E := E) (O_laws_FnExactDmaRead N) (noIt) sl_laws_FnExactDmaRead J_laws_FnExactDmaRead Go.Proofs.Try.f4 [(Go.Eng.AV.sc (Go.Eng.SV.str s)), (Go.Eng.AV.sc (Go.Eng.SV.int Go.IntKind.i64 n)), (Go.Eng.AV.sc (Go.Eng.SV.int Go.IntKind.i64 n1)), (Go.Eng.AV.sc (Go.Eng.SV.int Go.IntKind.i64 n2))] [] K =
      g_laws_FnExactDmaRead N s n n1 n2 (fun b1 => K (Go.Eng.AV.sc (Go.Eng.SV.bool b1)) []) := by kernel_rfl
def o_laws_FnExactDmaRead (N : Nat) {R : Type} (args : List AV) (H : Hp E) (K : AV → Hp E → Option R) : Option R :=
  match args, H with
  | [(Go.Eng.AV.sc (Go.Eng.SV.str s)), (Go.Eng.AV.sc (Go.Eng.SV.int Go.IntKind.i64 n)), (Go.Eng.AV.sc (Go.Eng.SV.int Go.IntKind.i64 n1)), (Go.Eng.AV.sc (Go.Eng.SV.int Go.IntKind.i64 n2))], [] => g_laws_FnExactDmaRead N s n n1 n2 (fun b1 => K (Go.Eng.AV.sc (Go.Eng.SV.bool b1)) [])
  | _, _ => none
theorem o_laws_FnExactDmaRead_ok (N : Nat) : FnOk E 4 (o_laws_FnExactDmaRead N) := by
  intro R args H K r h
  unfold o_laws_FnExactDmaRead at h
  dsimp only at h
  split at h
  · exact fnB_ok (ids := []) (top := []) ok (O_laws_FnExactDmaRead_ok N) (jn_ok _ _ _) Go.Proofs.Try.func4 (by kernel_rfl) (IT := noIt) (sl := sl_laws_FnExactDmaRead) (J := J_laws_FnExactDmaRead) (K := K) (H := []) (noIt_ok) (by kernel_rfl) rfl ((e_laws_FnExactDmaRead N _ _ _ _ K).trans h)
  · cases h
end Go.Sa
