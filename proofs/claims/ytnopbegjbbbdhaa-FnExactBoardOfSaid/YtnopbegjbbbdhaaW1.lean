import Derived.Test.YtnopbegjbbbdhaaEnv
import Derived.Test.YtnopbegjbbbdhaaPLb
import Derived.Test.YtnopbegjbbbdhaaW0
set_option linter.all false
namespace Go.Sa
open Go Go.Eng Go.Proofs
set_option maxRecDepth 100000
/-! ### slices.Equal[[]loop.example/g00038/impl.FirmTable,loop.example/g00038/impl.FirmTable] -/
abbrev sl_slices_Equal_FirmTable_ww : SlotT := [(0, ([0, 1, 12, 13], [4]))]
abbrev J_slices_Equal_FirmTable_ww : JT := jn [] []
noncomputable def O_slices_Equal_FirmTable_ww (N : Nat) : Orc E := noFn
theorem O_slices_Equal_FirmTable_ww_ok (N : Nat) : OrcOk (O_slices_Equal_FirmTable_ww N) := noFn_ok
def s_slices_Equal_FirmTable_ww_0 (N : Nat) {R : Type} (b2 : Bool) (b3 : Bool) (n : Int) (l2 : List Go.Sa.FirmTable) (l3 : List Go.Sa.FirmTable) (n1 : Int) (ag : Int → Option R)  (kR : Option R) (kN : Option R) : Option R :=
  (cond (decide ((n1 < n)))
  (cond ((decide (((0 : Int) ≤ n1))) && (decide ((n1 < (((List.length l2) : Nat) : Int)))))
    (elemK l2 (Int.toNat n1) fun x =>
      (cond ((decide (((0 : Int) ≤ n1))) && (decide ((n1 < (((List.length l3) : Nat) : Int)))))
      (elemK l3 (Int.toNat n1) fun x1 =>
        (cond (!((decide (((Go.Sa.FirmTable.fName x) = (Go.Sa.FirmTable.fName x1)))) && (((Go.Sa.FirmTable.fRev x) == (Go.Sa.FirmTable.fRev x1)) && ((decide (((Go.Sa.FirmTable.fBody x) = (Go.Sa.FirmTable.fBody x1)))) && Bool.true))))
        kR
        (ag (Go.IntKind.wrap Go.IntKind.i64 (n1 + (1 : Int))))))
      none))
    none)
  kN)
def l_slices_Equal_FirmTable_ww_0 (N : Nat) {R : Type} (b2 : Bool) (b3 : Bool) (n : Int) (l2 : List Go.Sa.FirmTable) (l3 : List Go.Sa.FirmTable) (kR : Option R) (kN : Option R) : Nat → Int → Option R
  | 0, _ => none
  | f + 1, n1 => s_slices_Equal_FirmTable_ww_0 N b2 b3 n l2 l3 n1 (fun n1 => l_slices_Equal_FirmTable_ww_0 N b2 b3 n l2 l3 kR kN f n1)  kR kN
def c_slices_Equal_FirmTable_ww_0 (N : Nat) {R : Type} (b2 : Bool) (b3 : Bool) (n : Int) (l2 : List Go.Sa.FirmTable) (l3 : List Go.Sa.FirmTable) (n1 : Int) (kR : Option R) (kN : Option R) : Option R := l_slices_Equal_FirmTable_ww_0 N b2 b3 n l2 l3 kR kN N n1
theorem se_slices_Equal_FirmTable_ww_0 (N : Nat) {R : Type} (b2 : Bool) (b3 : Bool) (n : Int) (l2 : List Go.Sa.FirmTable) (l3 : List Go.Sa.FirmTable) (n1 : Int) (AG : List (Option AV) → Hp E → Option R) (KL : Ex → List (Option AV) → Hp E → Option R) :
    iterStep (E := E) (O_slices_Equal_FirmTable_ww N) (fun {R} => LI (noIt) 2 26 sl_slices_Equal_FirmTable_ww (R := R)) J_slices_Equal_FirmTable_ww 2 26 0 [0, 1, 12, 13] [4] (body Go.Proofs.Try.f86 0) AG KL [(Option.some (Go.Eng.AV.sc (Go.Eng.SV.slc 0 Option.none b2))), (Option.some (Go.Eng.AV.sc (Go.Eng.SV.slc 1 Option.none b3))), (Option.some (Go.Eng.AV.sc (Go.Eng.SV.int Go.IntKind.i64 n))), (Option.some (Go.Eng.AV.sc (Go.Eng.SV.int Go.IntKind.i64 n1)))] [(Option.some (Go.Eng.HE.mk Bool.false (Go.Eng.HB.rows (Go.Sa.B.iFirmTable l2)))), (Option.some (Go.Eng.HE.mk Bool.false (Go.Eng.HB.rows (Go.Sa.B.iFirmTable l3))))] =
      s_slices_Equal_FirmTable_ww_0 N b2 b3 n l2 l3 n1 (fun n1 => AG [(Option.some (Go.Eng.AV.sc (Go.Eng.SV.slc 0 Option.none b2))), (Option.some (Go.Eng.AV.sc (Go.Eng.SV.slc 1 Option.none b3))), (Option.some (Go.Eng.AV.sc (Go.Eng.SV.int Go.IntKind.i64 n))), (Option.some (Go.Eng.AV.sc (Go.Eng.SV.int Go.IntKind.i64 n1)))] [(Option.some (Go.Eng.HE.mk Bool.false (Go.Eng.HB.rows (Go.Sa.B.iFirmTable l2)))), (Option.some (Go.Eng.HE.mk Bool.false (Go.Eng.HB.rows (Go.Sa.B.iFirmTable l3))))])  (KL Go.Eng.Ex.ret [(Option.some (Go.Eng.AV.sc (Go.Eng.SV.bool Bool.false)))] [(Option.some (Go.Eng.HE.mk Bool.false (Go.Eng.HB.rows (Go.Sa.B.iFirmTable l2)))), (Option.some (Go.Eng.HE.mk Bool.false (Go.Eng.HB.rows (Go.Sa.B.iFirmTable l3))))]) (KL Go.Eng.Ex.normal [Option.none] [(Option.some (Go.Eng.HE.mk Bool.false (Go.Eng.HB.rows (Go.Sa.B.iFirmTable l2)))), (Option.some (Go.Eng.HE.mk Bool.false (Go.Eng.HB.rows (Go.Sa.B.iFirmTable l3))))]) := by kernel_rfl
theorem le_slices_Equal_FirmTable_ww_0 (N : Nat) {R : Type} (b2 : Bool) (b3 : Bool) (n : Int) (l2 : List Go.Sa.FirmTable) (l3 : List Go.Sa.FirmTable) (KL : Ex → List (Option AV) → Hp E → Option R) : ∀ (f : Nat), ∀ (n1 : Int), iterK (E := E) (O_slices_Equal_FirmTable_ww N) (fun {R} => LI (noIt) 2 26 sl_slices_Equal_FirmTable_ww (R := R)) J_slices_Equal_FirmTable_ww 2 26 0 [0, 1, 12, 13] [4] (body Go.Proofs.Try.f86 0) f [(Option.some (Go.Eng.AV.sc (Go.Eng.SV.slc 0 Option.none b2))), (Option.some (Go.Eng.AV.sc (Go.Eng.SV.slc 1 Option.none b3))), (Option.some (Go.Eng.AV.sc (Go.Eng.SV.int Go.IntKind.i64 n))), (Option.some (Go.Eng.AV.sc (Go.Eng.SV.int Go.IntKind.i64 n1)))] [(Option.some (Go.Eng.HE.mk Bool.false (Go.Eng.HB.rows (Go.Sa.B.iFirmTable l2)))), (Option.some (Go.Eng.HE.mk Bool.false (Go.Eng.HB.rows (Go.Sa.B.iFirmTable l3))))] KL = l_slices_Equal_FirmTable_ww_0 N b2 b3 n l2 l3 (KL Go.Eng.Ex.ret [(Option.some (Go.Eng.AV.sc (Go.Eng.SV.bool Bool.false)))] [(Option.some (Go.Eng.HE.mk Bool.false (Go.Eng.HB.rows (Go.Sa.B.iFirmTable l2)))), (Option.some (Go.Eng.HE.mk Bool.false (Go.Eng.HB.rows (Go.Sa.B.iFirmTable l3))))]) (KL Go.Eng.Ex.normal [Option.none] [(Option.some (Go.Eng.HE.mk Bool.false (Go.Eng.HB.rows (Go.Sa.B.iFirmTable l2)))), (Option.some (Go.Eng.HE.mk Bool.false (Go.Eng.HB.rows (Go.Sa.B.iFirmTable l3))))]) f n1 := by
  intro f
  induction f with
  | zero => intros; rfl
  | succ f ih =>
    intro n1
    rw [iterK_succ, se_slices_Equal_FirmTable_ww_0]
    exact (congrArg (fun z0 => s_slices_Equal_FirmTable_ww_0 N b2 b3 n l2 l3 n1 z0 (KL Go.Eng.Ex.ret [(Option.some (Go.Eng.AV.sc (Go.Eng.SV.bool Bool.false)))] [(Option.some (Go.Eng.HE.mk Bool.false (Go.Eng.HB.rows (Go.Sa.B.iFirmTable l2)))), (Option.some (Go.Eng.HE.mk Bool.false (Go.Eng.HB.rows (Go.Sa.B.iFirmTable l3))))]) (KL Go.Eng.Ex.normal [Option.none] [(Option.some (Go.Eng.HE.mk Bool.false (Go.Eng.HB.rows (Go.Sa.B.iFirmTable l2)))), (Option.some (Go.Eng.HE.mk Bool.false (Go.Eng.HB.rows (Go.Sa.B.iFirmTable l3))))])) (funext fun n1 => ih n1))
def i_slices_Equal_FirmTable_ww_0 (N : Nat) {R : Type} (vs : List (Option AV)) (H : Hp E) (KL : Ex → List (Option AV) → Hp E → Option R) : Option R :=
  match vs, H with
  | [(Option.some (Go.Eng.AV.sc (Go.Eng.SV.slc 0 Option.none b2))), (Option.some (Go.Eng.AV.sc (Go.Eng.SV.slc 1 Option.none b3))), (Option.some (Go.Eng.AV.sc (Go.Eng.SV.int Go.IntKind.i64 n))), (Option.some (Go.Eng.AV.sc (Go.Eng.SV.int Go.IntKind.i64 n1)))], [(Option.some (Go.Eng.HE.mk Bool.false (Go.Eng.HB.rows (Go.Sa.B.iFirmTable l2)))), (Option.some (Go.Eng.HE.mk Bool.false (Go.Eng.HB.rows (Go.Sa.B.iFirmTable l3))))] => c_slices_Equal_FirmTable_ww_0 N b2 b3 n l2 l3 n1 (KL Go.Eng.Ex.ret [(Option.some (Go.Eng.AV.sc (Go.Eng.SV.bool Bool.false)))] [(Option.some (Go.Eng.HE.mk Bool.false (Go.Eng.HB.rows (Go.Sa.B.iFirmTable l2)))), (Option.some (Go.Eng.HE.mk Bool.false (Go.Eng.HB.rows (Go.Sa.B.iFirmTable l3))))]) (KL Go.Eng.Ex.normal [Option.none] [(Option.some (Go.Eng.HE.mk Bool.false (Go.Eng.HB.rows (Go.Sa.B.iFirmTable l2)))), (Option.some (Go.Eng.HE.mk Bool.false (Go.Eng.HB.rows (Go.Sa.B.iFirmTable l3))))])
  | _, _ => none
noncomputable def IT_slices_Equal_FirmTable_ww_0 (N : Nat) : Its E := addIt 0 (i_slices_Equal_FirmTable_ww_0 N) (noIt)
theorem IT_slices_Equal_FirmTable_ww_0_ok (N : Nat) : ItOk (IT_slices_Equal_FirmTable_ww_0 N) 2 26 sl_slices_Equal_FirmTable_ww (lsB Go.Proofs.Try.f86 [0]) :=
  addItB_ok (inner := []) ok (O_slices_Equal_FirmTable_ww_ok N) (jn_ok _ _) (noIt_ok) rfl (by kernel_rfl) rfl fun vs H KL r h => by
    unfold i_slices_Equal_FirmTable_ww_0 at h
    split at h
    · exact ⟨_, (le_slices_Equal_FirmTable_ww_0 N _ _ _ _ _ KL N _).trans h⟩
    · cases h
def g_slices_Equal_FirmTable_ww (N : Nat) {R : Type} (b : Bool) (b1 : Bool) (l : List Go.Sa.FirmTable) (l1 : List Go.Sa.FirmTable) (k : Bool → Option R) : Option R :=
  (cond ((((List.length l) : Nat) : Int) != (((List.length l1) : Nat) : Int))
  (k Bool.false)
  (c_slices_Equal_FirmTable_ww_0 N b b1 (((List.length l) : Nat) : Int) l l1 (0 : Int) (
    (k Bool.false)) (
    (k Bool.true))))
theorem e_slices_Equal_FirmTable_ww (N : Nat) {R : Type} (b : Bool) (b1 : Bool) (l : List Go.Sa.FirmTable) (l1 : List Go.Sa.FirmTable) (K : AV → Hp E → Option R) :
    runFnI (E := E) (O_slices_Equal_FirmTable_ww N) (IT_slices_Equal_FirmTable_ww_0 N) sl_slices_Equal_FirmTable_ww J_slices_Equal_FirmTable_ww Go.Proofs.Try.f86 [(Go.Eng.AV.sc (Go.Eng.SV.slc 0 Option.none b)), (Go.Eng.AV.sc (Go.Eng.SV.slc 1 Option.none b1))] [(Option.some (Go.Eng.HE.mk Bool.false (Go.Eng.HB.rows (Go.Sa.B.iFirmTable l)))), (Option.some (Go.Eng.HE.mk Bool.false (Go.Eng.HB.rows (Go.Sa.B.iFirmTable l1))))] K =
      g_slices_Equal_FirmTable_ww N b b1 l l1 (fun b4 => K (Go.Eng.AV.sc (Go.Eng.SV.bool b4)) [(Option.some (Go.Eng.HE.mk Bool.false (Go.Eng.HB.rows (Go.Sa.B.iFirmTable l)))), (Option.some (Go.Eng.HE.mk Bool.false (Go.Eng.HB.rows (Go.Sa.B.iFirmTable l1))))]) := by kernel_rfl
def o_slices_Equal_FirmTable_ww (N : Nat) {R : Type} (args : List AV) (H : Hp E) (K : AV → Hp E → Option R) : Option R :=
  match args, H with
  | [(Go.Eng.AV.sc (Go.Eng.SV.slc 0 Option.none b)), (Go.Eng.AV.sc (Go.Eng.SV.slc 1 Option.none b1))], [(Option.some (Go.Eng.HE.mk Bool.false (Go.Eng.HB.rows (Go.Sa.B.iFirmTable l)))), (Option.some (Go.Eng.HE.mk Bool.false (Go.Eng.HB.rows (Go.Sa.B.iFirmTable l1))))] => g_slices_Equal_FirmTable_ww N b b1 l l1 (fun b4 => K (Go.Eng.AV.sc (Go.Eng.SV.bool b4)) [(Option.some (Go.Eng.HE.mk Bool.false (Go.Eng.HB.rows (Go.Sa.B.iFirmTable l)))), (Option.some (Go.Eng.HE.mk Bool.false (Go.Eng.HB.rows (Go.Sa.B.iFirmTable l1))))])
  | _, _ => none
theorem o_slices_Equal_FirmTable_ww_ok (N : Nat) : FnOk E 86 (o_slices_Equal_FirmTable_ww N) := by
  intro R args H K r h
  unfold o_slices_Equal_FirmTable_ww at h
  dsimp only at h
  split at h
  · exact fnB_ok (ids := [0]) (top := [0]) ok (O_slices_Equal_FirmTable_ww_ok N) (jn_ok _ _) Go.Proofs.Try.func86 (by kernel_rfl) (IT := IT_slices_Equal_FirmTable_ww_0 N) (sl := sl_slices_Equal_FirmTable_ww) (J := J_slices_Equal_FirmTable_ww) (K := K) (H := [(Option.some (Go.Eng.HE.mk Bool.false (Go.Eng.HB.rows (Go.Sa.B.iFirmTable _)))), (Option.some (Go.Eng.HE.mk Bool.false (Go.Eng.HB.rows (Go.Sa.B.iFirmTable _))))]) (IT_slices_Equal_FirmTable_ww_0_ok N) (by kernel_rfl) rfl ((e_slices_Equal_FirmTable_ww N _ _ _ _ K).trans h)
  · cases h
/-! ### loop.example/g00038/impl.BoardOf -/
abbrev sl_impl_BoardOf_w : SlotT := [(0, ([0, 2, 3, 4, 5], [0, 2, 3]))]
abbrev J_impl_BoardOf_w : JT := jn [(1, [(29, .b)])] []
noncomputable def O_impl_BoardOf_w (N : Nat) : Orc E := addFn 86 (o_slices_Equal_FirmTable_ww N) (addFn 44 (o_impl_TablesOf_w N) (addFn 85 (o_impl_ywordAt N) (addFn 82 (o_slices_ContainsFunc_FirmTable_Fimpl_BoardOf_1_r N) (noFn))))
theorem O_impl_BoardOf_w_ok (N : Nat) : OrcOk (O_impl_BoardOf_w N) := addFn_ok (o_slices_Equal_FirmTable_ww_ok N) (addFn_ok (o_impl_TablesOf_w_ok N) (addFn_ok (o_impl_ywordAt_ok N) (addFn_ok (o_slices_ContainsFunc_FirmTable_Fimpl_BoardOf_1_r_ok N) (noFn_ok))))
def s_impl_BoardOf_w_0 (N : Nat) {R : Type} (b2 : Bool) (s : ByteArray) (l1 : List Go.Sa.FirmTable) (b3 : Bool) (n3 : Int) (n4 : Int) (b4 : Bool) (l2 : List Go.Sa.Device) (n5 : Int) (n6 : Int) (n2 : Int) (b5 : Bool) (l3 : List Go.Sa.Device) (ag : Int → Bool → (List Go.Sa.Device) → Option R)  (kN : Bool → (List Go.Sa.Device) → Option R) : Option R :=
  (cond (decide ((n2 < (((ByteArray.size s) : Nat) : Int))))
  (g_impl_ywordAt N s n2 fun n7 =>
    (cond (Go.Eng.roomOk ((List.length l3) + (List.length [(Go.Sa.Device.mk (Int.fdiv n7 (16777216 : Int)) (Go.IntKind.wrap Go.IntKind.i64 (((BitVec.toNat ((BitVec.ofInt 64 n7) &&& (BitVec.ofInt 64 (65535 : Int)))) : Nat) : Int)) (Go.IntKind.wrap Go.IntKind.i64 (((BitVec.toNat ((BitVec.ofInt 64 (Int.fdiv n7 (65536 : Int))) &&& (BitVec.ofInt 64 (255 : Int)))) : Nat) : Int)))])) 24)
    (ag (Go.IntKind.wrap Go.IntKind.i64 (n2 + (4 : Int))) (cond (Nat.beq (List.length [(Go.Sa.Device.mk (Int.fdiv n7 (16777216 : Int)) (Go.IntKind.wrap Go.IntKind.i64 (((BitVec.toNat ((BitVec.ofInt 64 n7) &&& (BitVec.ofInt 64 (65535 : Int)))) : Nat) : Int)) (Go.IntKind.wrap Go.IntKind.i64 (((BitVec.toNat ((BitVec.ofInt 64 (Int.fdiv n7 (65536 : Int))) &&& (BitVec.ofInt 64 (255 : Int)))) : Nat) : Int)))]) 0) b5 Bool.false) (l3 ++ [(Go.Sa.Device.mk (Int.fdiv n7 (16777216 : Int)) (Go.IntKind.wrap Go.IntKind.i64 (((BitVec.toNat ((BitVec.ofInt 64 n7) &&& (BitVec.ofInt 64 (65535 : Int)))) : Nat) : Int)) (Go.IntKind.wrap Go.IntKind.i64 (((BitVec.toNat ((BitVec.ofInt 64 (Int.fdiv n7 (65536 : Int))) &&& (BitVec.ofInt 64 (255 : Int)))) : Nat) : Int)))]))
    none))
  (kN b5 l3))
def l_impl_BoardOf_w_0 (N : Nat) {R : Type} (b2 : Bool) (s : ByteArray) (l1 : List Go.Sa.FirmTable) (b3 : Bool) (n3 : Int) (n4 : Int) (b4 : Bool) (l2 : List Go.Sa.Device) (n5 : Int) (n6 : Int) (kN : Bool → (List Go.Sa.Device) → Option R) : Nat → Int → Bool → (List Go.Sa.Device) → Option R
  | 0, _, _, _ => none
  | f + 1, n2, b5, l3 => s_impl_BoardOf_w_0 N b2 s l1 b3 n3 n4 b4 l2 n5 n6 n2 b5 l3 (fun n2 b5 l3 => l_impl_BoardOf_w_0 N b2 s l1 b3 n3 n4 b4 l2 n5 n6 kN f n2 b5 l3)  kN
def c_impl_BoardOf_w_0 (N : Nat) {R : Type} (b2 : Bool) (s : ByteArray) (l1 : List Go.Sa.FirmTable) (b3 : Bool) (n3 : Int) (n4 : Int) (b4 : Bool) (l2 : List Go.Sa.Device) (n5 : Int) (n6 : Int) (n2 : Int) (b5 : Bool) (l3 : List Go.Sa.Device) (kN : Bool → (List Go.Sa.Device) → Option R) : Option R := l_impl_BoardOf_w_0 N b2 s l1 b3 n3 n4 b4 l2 n5 n6 kN N n2 b5 l3
theorem se_impl_BoardOf_w_0 (N : Nat) {R : Type} (b2 : Bool) (s : ByteArray) (l1 : List Go.Sa.FirmTable) (b3 : Bool) (n3 : Int) (n4 : Int) (b4 : Bool) (l2 : List Go.Sa.Device) (n5 : Int) (n6 : Int) (n2 : Int) (b5 : Bool) (l3 : List Go.Sa.Device) (AG : List (Option AV) → Hp E → Option R) (KL : Ex → List (Option AV) → Hp E → Option R) :
    iterStep (E := E) (O_impl_BoardOf_w N) (fun {R} => LI (noIt) 1 76 sl_impl_BoardOf_w (R := R)) J_impl_BoardOf_w 1 76 0 [0, 2, 3, 4, 5] [0, 2, 3] (body Go.Proofs.Try.f28 0) AG KL [(Option.some (Go.Eng.AV.sc (Go.Eng.SV.slc 0 Option.none b2))), (Option.some (Go.Eng.AV.sc (Go.Eng.SV.ptr 1 0 0))), (Option.some (Go.Eng.AV.sc (Go.Eng.SV.ptr 3 0 0))), (Option.some (Go.Eng.AV.sc (Go.Eng.SV.str s))), (Option.some (Go.Eng.AV.sc (Go.Eng.SV.int Go.IntKind.i64 n2)))] [(Option.some (Go.Eng.HE.mk Bool.false (Go.Eng.HB.rows (Go.Sa.B.iFirmTable l1)))), (Option.some (Go.Eng.HE.mk Bool.false (Go.Eng.HB.exp [(Go.Eng.SV.bool b3), (Go.Eng.SV.int Go.IntKind.i64 n3), (Go.Eng.SV.int Go.IntKind.i64 n4), (Go.Eng.SV.slc 2 Option.none b4)]))), (Option.some (Go.Eng.HE.mk Bool.false (Go.Eng.HB.rows (Go.Sa.B.iDevice l2)))), (Option.some (Go.Eng.HE.mk Bool.false (Go.Eng.HB.exp [(Go.Eng.SV.int Go.IntKind.i64 n5), (Go.Eng.SV.int Go.IntKind.i64 n6), (Go.Eng.SV.slc 4 Option.none b5)]))), (Option.some (Go.Eng.HE.mk Bool.false (Go.Eng.HB.rows (Go.Sa.B.iDevice l3))))] =
      s_impl_BoardOf_w_0 N b2 s l1 b3 n3 n4 b4 l2 n5 n6 n2 b5 l3 (fun n2 b5 l3 => AG [(Option.some (Go.Eng.AV.sc (Go.Eng.SV.slc 0 Option.none b2))), (Option.some (Go.Eng.AV.sc (Go.Eng.SV.ptr 1 0 0))), (Option.some (Go.Eng.AV.sc (Go.Eng.SV.ptr 3 0 0))), (Option.some (Go.Eng.AV.sc (Go.Eng.SV.str s))), (Option.some (Go.Eng.AV.sc (Go.Eng.SV.int Go.IntKind.i64 n2)))] [(Option.some (Go.Eng.HE.mk Bool.false (Go.Eng.HB.rows (Go.Sa.B.iFirmTable l1)))), (Option.some (Go.Eng.HE.mk Bool.false (Go.Eng.HB.exp [(Go.Eng.SV.bool b3), (Go.Eng.SV.int Go.IntKind.i64 n3), (Go.Eng.SV.int Go.IntKind.i64 n4), (Go.Eng.SV.slc 2 Option.none b4)]))), (Option.some (Go.Eng.HE.mk Bool.false (Go.Eng.HB.rows (Go.Sa.B.iDevice l2)))), (Option.some (Go.Eng.HE.mk Bool.false (Go.Eng.HB.exp [(Go.Eng.SV.int Go.IntKind.i64 n5), (Go.Eng.SV.int Go.IntKind.i64 n6), (Go.Eng.SV.slc 4 Option.none b5)]))), (Option.some (Go.Eng.HE.mk Bool.false (Go.Eng.HB.rows (Go.Sa.B.iDevice l3))))])  (fun b11 l7 => KL Go.Eng.Ex.normal [(Option.some (Go.Eng.AV.sc (Go.Eng.SV.slc 0 Option.none b2))), (Option.some (Go.Eng.AV.sc (Go.Eng.SV.ptr 1 0 0))), (Option.some (Go.Eng.AV.sc (Go.Eng.SV.ptr 3 0 0)))] [(Option.some (Go.Eng.HE.mk Bool.false (Go.Eng.HB.rows (Go.Sa.B.iFirmTable l1)))), (Option.some (Go.Eng.HE.mk Bool.false (Go.Eng.HB.exp [(Go.Eng.SV.bool b3), (Go.Eng.SV.int Go.IntKind.i64 n3), (Go.Eng.SV.int Go.IntKind.i64 n4), (Go.Eng.SV.slc 2 Option.none b4)]))), (Option.some (Go.Eng.HE.mk Bool.false (Go.Eng.HB.rows (Go.Sa.B.iDevice l2)))), (Option.some (Go.Eng.HE.mk Bool.false (Go.Eng.HB.exp [(Go.Eng.SV.int Go.IntKind.i64 n5), (Go.Eng.SV.int Go.IntKind.i64 n6), (Go.Eng.SV.slc 4 Option.none b11)]))), (Option.some (Go.Eng.HE.mk Bool.false (Go.Eng.HB.rows (Go.Sa.B.iDevice l7))))]) := by kernel_rfl
theorem le_impl_BoardOf_w_0 (N : Nat) {R : Type} (b2 : Bool) (s : ByteArray) (l1 : List Go.Sa.FirmTable) (b3 : Bool) (n3 : Int) (n4 : Int) (b4 : Bool) (l2 : List Go.Sa.Device) (n5 : Int) (n6 : Int) (KL : Ex → List (Option AV) → Hp E → Option R) : ∀ (f : Nat), ∀ (n2 : Int) (b5 : Bool) (l3 : List Go.Sa.Device), iterK (E := E) (O_impl_BoardOf_w N) (fun {R} => LI (noIt) 1 76 sl_impl_BoardOf_w (R := R)) J_impl_BoardOf_w 1 76 0 [0, 2, 3, 4, 5] [0, 2, 3] (body Go.Proofs.Try.f28 0) f [(Option.some (Go.Eng.AV.sc (Go.Eng.SV.slc 0 Option.none b2))), (Option.some (Go.Eng.AV.sc (Go.Eng.SV.ptr 1 0 0))), (Option.some (Go.Eng.AV.sc (Go.Eng.SV.ptr 3 0 0))), (Option.some (Go.Eng.AV.sc (Go.Eng.SV.str s))), (Option.some (Go.Eng.AV.sc (Go.Eng.SV.int Go.IntKind.i64 n2)))] [(Option.some (Go.Eng.HE.mk Bool.false (Go.Eng.HB.rows (Go.Sa.B.iFirmTable l1)))), (Option.some (Go.Eng.HE.mk Bool.false (Go.Eng.HB.exp [(Go.Eng.SV.bool b3), (Go.Eng.SV.int Go.IntKind.i64 n3), (Go.Eng.SV.int Go.IntKind.i64 n4), (Go.Eng.SV.slc 2 Option.none b4)]))), (Option.some (Go.Eng.HE.mk Bool.false (Go.Eng.HB.rows (Go.Sa.B.iDevice l2)))), (Option.some (Go.Eng.HE.mk Bool.false (Go.Eng.HB.exp [(Go.Eng.SV.int Go.IntKind.i64 n5), (Go.Eng.SV.int Go.IntKind.i64 n6), (Go.Eng.SV.slc 4 Option.none b5)]))), (Option.some (Go.Eng.HE.mk Bool.false (Go.Eng.HB.rows (Go.Sa.B.iDevice l3))))] KL = l_impl_BoardOf_w_0 N b2 s l1 b3 n3 n4 b4 l2 n5 n6 (fun b11 l7 => KL Go.Eng.Ex.normal [(Option.some (Go.Eng.AV.sc (Go.Eng.SV.slc 0 Option.none b2))), (Option.some (Go.Eng.AV.sc (Go.Eng.SV.ptr 1 0 0))), (Option.some (Go.Eng.AV.sc (Go.Eng.SV.ptr 3 0 0)))] [(Option.some (Go.Eng.HE.mk Bool.false (Go.Eng.HB.rows (Go.Sa.B.iFirmTable l1)))), (Option.some (Go.Eng.HE.mk Bool.false (Go.Eng.HB.exp [(Go.Eng.SV.bool b3), (Go.Eng.SV.int Go.IntKind.i64 n3), (Go.Eng.SV.int Go.IntKind.i64 n4), (Go.Eng.SV.slc 2 Option.none b4)]))), (Option.some (Go.Eng.HE.mk Bool.false (Go.Eng.HB.rows (Go.Sa.B.iDevice l2)))), (Option.some (Go.Eng.HE.mk Bool.false (Go.Eng.HB.exp [(Go.Eng.SV.int Go.IntKind.i64 n5), (Go.Eng.SV.int Go.IntKind.i64 n6), (Go.Eng.SV.slc 4 Option.none b11)]))), (Option.some (Go.Eng.HE.mk Bool.false (Go.Eng.HB.rows (Go.Sa.B.iDevice l7))))]) f n2 b5 l3 := by
  intro f
  induction f with
  | zero => intros; rfl
  | succ f ih =>
    intro n2 b5 l3
    rw [iterK_succ, se_impl_BoardOf_w_0]
    exact (congrArg (fun z0 => s_impl_BoardOf_w_0 N b2 s l1 b3 n3 n4 b4 l2 n5 n6 n2 b5 l3 z0 (fun b11 l7 => KL Go.Eng.Ex.normal [(Option.some (Go.Eng.AV.sc (Go.Eng.SV.slc 0 Option.none b2))), (Option.some (Go.Eng.AV.sc (Go.Eng.SV.ptr 1 0 0))), (Option.some (Go.Eng.AV.sc (Go.Eng.SV.ptr 3 0 0)))] [(Option.some (Go.Eng.HE.mk Bool.false (Go.Eng.HB.rows (Go.Sa.B.iFirmTable l1)))), (Option.some (Go.Eng.HE.mk Bool.false (Go.Eng.HB.exp [(Go.Eng.SV.bool b3), (Go.Eng.SV.int Go.IntKind.i64 n3), (Go.Eng.SV.int Go.IntKind.i64 n4), (Go.Eng.SV.slc 2 Option.none b4)]))), (Option.some (Go.Eng.HE.mk Bool.false (Go.Eng.HB.rows (Go.Sa.B.iDevice l2)))), (Option.some (Go.Eng.HE.mk Bool.false (Go.Eng.HB.exp [(Go.Eng.SV.int Go.IntKind.i64 n5), (Go.Eng.SV.int Go.IntKind.i64 n6), (Go.Eng.SV.slc 4 Option.none b11)]))), (Option.some (Go.Eng.HE.mk Bool.false (Go.Eng.HB.rows (Go.Sa.B.iDevice l7))))])) (funext fun n2 => funext fun b5 => funext fun l3 => ih n2 b5 l3))
def i_impl_BoardOf_w_0 (N : Nat) {R : Type} (vs : List (Option AV)) (H : Hp E) (KL : Ex → List (Option AV) → Hp E → Option R) : Option R :=
  match vs, H with
  | [(Option.some (Go.Eng.AV.sc (Go.Eng.SV.slc 0 Option.none b2))), (Option.some (Go.Eng.AV.sc (Go.Eng.SV.ptr 1 0 0))), (Option.some (Go.Eng.AV.sc (Go.Eng.SV.ptr 3 0 0))), (Option.some (Go.Eng.AV.sc (Go.Eng.SV.str s))), (Option.some (Go.Eng.AV.sc (Go.Eng.SV.int Go.IntKind.i64 n2)))], [(Option.some (Go.Eng.HE.mk Bool.false (Go.Eng.HB.rows (Go.Sa.B.iFirmTable l1)))), (Option.some (Go.Eng.HE.mk Bool.false (Go.Eng.HB.exp [(Go.Eng.SV.bool b3), (Go.Eng.SV.int Go.IntKind.i64 n3), (Go.Eng.SV.int Go.IntKind.i64 n4), (Go.Eng.SV.slc 2 Option.none b4)]))), (Option.some (Go.Eng.HE.mk Bool.false (Go.Eng.HB.rows (Go.Sa.B.iDevice l2)))), (Option.some (Go.Eng.HE.mk Bool.false (Go.Eng.HB.exp [(Go.Eng.SV.int Go.IntKind.i64 n5), (Go.Eng.SV.int Go.IntKind.i64 n6), (Go.Eng.SV.slc 4 Option.none b5)]))), (Option.some (Go.Eng.HE.mk Bool.false (Go.Eng.HB.rows (Go.Sa.B.iDevice l3))))] => c_impl_BoardOf_w_0 N b2 s l1 b3 n3 n4 b4 l2 n5 n6 n2 b5 l3 (fun b12 l8 => KL Go.Eng.Ex.normal [(Option.some (Go.Eng.AV.sc (Go.Eng.SV.slc 0 Option.none b2))), (Option.some (Go.Eng.AV.sc (Go.Eng.SV.ptr 1 0 0))), (Option.some (Go.Eng.AV.sc (Go.Eng.SV.ptr 3 0 0)))] [(Option.some (Go.Eng.HE.mk Bool.false (Go.Eng.HB.rows (Go.Sa.B.iFirmTable l1)))), (Option.some (Go.Eng.HE.mk Bool.false (Go.Eng.HB.exp [(Go.Eng.SV.bool b3), (Go.Eng.SV.int Go.IntKind.i64 n3), (Go.Eng.SV.int Go.IntKind.i64 n4), (Go.Eng.SV.slc 2 Option.none b4)]))), (Option.some (Go.Eng.HE.mk Bool.false (Go.Eng.HB.rows (Go.Sa.B.iDevice l2)))), (Option.some (Go.Eng.HE.mk Bool.false (Go.Eng.HB.exp [(Go.Eng.SV.int Go.IntKind.i64 n5), (Go.Eng.SV.int Go.IntKind.i64 n6), (Go.Eng.SV.slc 4 Option.none b12)]))), (Option.some (Go.Eng.HE.mk Bool.false (Go.Eng.HB.rows (Go.Sa.B.iDevice l8))))])
  | _, _ => none
noncomputable def IT_impl_BoardOf_w_0 (N : Nat) : Its E := addIt 0 (i_impl_BoardOf_w_0 N) (noIt)
theorem IT_impl_BoardOf_w_0_ok (N : Nat) : ItOk (IT_impl_BoardOf_w_0 N) 1 76 sl_impl_BoardOf_w (lsB Go.Proofs.Try.f28 [0]) :=
  addItB_ok (inner := []) ok (O_impl_BoardOf_w_ok N) (jn_ok _ _) (noIt_ok) rfl (by kernel_rfl) rfl fun vs H KL r h => by
    unfold i_impl_BoardOf_w_0 at h
    split at h
    · exact ⟨_, (le_impl_BoardOf_w_0 N _ _ _ _ _ _ _ _ _ _ KL N _ _ _).trans h⟩
    · cases h
def g_impl_BoardOf_w (N : Nat) {R : Type} (b : Bool) (l : List Go.Sa.FirmTable) (k : Bool → Int → Int → Bool → (List Go.Sa.Device) → Option R) : Option R :=
  (oK (cond ((((List.length l) : Nat) : Int) != (3 : Int))
    (some Bool.true)
    (g_slices_ContainsFunc_FirmTable_Fimpl_BoardOf_1_r N b l fun b1 =>
      (cond b1
      (some Bool.true)
      (cond (decide (((0 : Int) < (((List.length l) : Nat) : Int))))
        (elemK l 0 fun x =>
          (cond ((((ByteArray.size (Go.Sa.FirmTable.fBody x)) : Nat) : Int) != (4 : Int))
          (some Bool.true)
          (cond (decide (((1 : Int) < (((List.length l) : Nat) : Int))))
            (elemK l 1 fun x1 =>
              (some ((((ByteArray.size (Go.Sa.FirmTable.fBody x1)) : Nat) : Int) != (4 : Int))))
            none)))
        none)))) fun j =>
  (cond j
  (k Bool.false (0 : Int) (0 : Int) Bool.true [])
  (cond (decide (((0 : Int) < (((List.length l) : Nat) : Int))))
    (elemK l 0 fun x2 =>
      (g_impl_ywordAt N (Go.Sa.FirmTable.fBody x2) (0 : Int) fun n =>
      (cond (decide (((1 : Int) < (((List.length l) : Nat) : Int))))
      (elemK l 1 fun x3 =>
        (g_impl_ywordAt N (Go.Sa.FirmTable.fBody x3) (0 : Int) fun n1 =>
        (cond (decide (((2 : Int) < (((List.length l) : Nat) : Int))))
        (elemK l 2 fun x4 =>
          (c_impl_BoardOf_w_0 N b (Go.Sa.FirmTable.fBody x4) l Bool.false (0 : Int) (0 : Int) Bool.true [] n n1 (0 : Int) Bool.true [] fun b6 l4 =>
          (g_impl_TablesOf_w N n n1 b6 l4 fun b7 l5 =>
          (g_slices_Equal_FirmTable_ww N b7 b l5 l fun b8 =>
          (cond (!b8)
          (k Bool.false (0 : Int) (0 : Int) Bool.true [])
          (k Bool.true n n1 b6 l4))))))
        none)))
      none)))
    none)))
theorem e_impl_BoardOf_w (N : Nat) {R : Type} (b : Bool) (l : List Go.Sa.FirmTable) (K : AV → Hp E → Option R) :
    runFnI (E := E) (O_impl_BoardOf_w N) (IT_impl_BoardOf_w_0 N) sl_impl_BoardOf_w J_impl_BoardOf_w Go.Proofs.Try.f28 [(Go.Eng.AV.sc (Go.Eng.SV.slc 0 Option.none b))] [(Option.some (Go.Eng.HE.mk Bool.false (Go.Eng.HB.rows (Go.Sa.B.iFirmTable l))))] K =
      g_impl_BoardOf_w N b l (fun b9 n8 n9 b10 l6 => K (Go.Eng.AV.agg [(Go.Eng.SV.bool b9), (Go.Eng.SV.int Go.IntKind.i64 n8), (Go.Eng.SV.int Go.IntKind.i64 n9), (Go.Eng.SV.slc 1 Option.none b10)]) [(Option.some (Go.Eng.HE.mk Bool.false (Go.Eng.HB.rows (Go.Sa.B.iFirmTable l)))), (Option.some (Go.Eng.HE.mk Bool.false (Go.Eng.HB.rows (Go.Sa.B.iDevice l6))))]) := by kernel_rfl
def o_impl_BoardOf_w (N : Nat) {R : Type} (args : List AV) (H : Hp E) (K : AV → Hp E → Option R) : Option R :=
  match args, H with
  | [(Go.Eng.AV.sc (Go.Eng.SV.slc 0 Option.none b))], [(Option.some (Go.Eng.HE.mk Bool.false (Go.Eng.HB.rows (Go.Sa.B.iFirmTable l))))] => g_impl_BoardOf_w N b l (fun b9 n8 n9 b10 l6 => K (Go.Eng.AV.agg [(Go.Eng.SV.bool b9), (Go.Eng.SV.int Go.IntKind.i64 n8), (Go.Eng.SV.int Go.IntKind.i64 n9), (Go.Eng.SV.slc 1 Option.none b10)]) [(Option.some (Go.Eng.HE.mk Bool.false (Go.Eng.HB.rows (Go.Sa.B.iFirmTable l)))), (Option.some (Go.Eng.HE.mk Bool.false (Go.Eng.HB.rows (Go.Sa.B.iDevice l6))))])
  | _, _ => none
theorem o_impl_BoardOf_w_ok (N : Nat) : FnOk E 28 (o_impl_BoardOf_w N) := by
  intro R args H K r h
  unfold o_impl_BoardOf_w at h
  dsimp only at h
  split at h
  · exact fnB_ok (ids := [0]) (top := [0]) ok (O_impl_BoardOf_w_ok N) (jn_ok _ _) Go.Proofs.Try.func28 (by kernel_rfl) (IT := IT_impl_BoardOf_w_0 N) (sl := sl_impl_BoardOf_w) (J := J_impl_BoardOf_w) (K := K) (H := [(Option.some (Go.Eng.HE.mk Bool.false (Go.Eng.HB.rows (Go.Sa.B.iFirmTable _))))]) (IT_impl_BoardOf_w_0_ok N) (by kernel_rfl) rfl ((e_impl_BoardOf_w N _ _ K).trans h)
  · cases h
/-! ### loop.example/g00038/laws.eqDevice -/
abbrev sl_laws_eqDevice : SlotT := []
abbrev J_laws_eqDevice : JT := jn [] []
noncomputable def O_laws_eqDevice (N : Nat) : Orc E := noFn
theorem O_laws_eqDevice_ok (N : Nat) : OrcOk (O_laws_eqDevice N) := noFn_ok
def g_laws_eqDevice (N : Nat) {R : Type} (n : Int) (n1 : Int) (n2 : Int) (n3 : Int) (n4 : Int) (n5 : Int) (k : Bool → Option R) : Option R :=
  (cond (n != n3)
  (k Bool.false)
  (cond (n1 != n4)
    (k Bool.false)
    (cond (n2 != n5)
      (k Bool.false)
      (k Bool.true))))
theorem e_laws_eqDevice (N : Nat) {R : Type} (n : Int) (n1 : Int) (n2 : Int) (n3 : Int) (n4 : Int) (n5 : Int) (K : AV → Hp E → Option R) :
    runFnI (E := E) (O_laws_eqDevice N) (noIt) sl_laws_eqDevice J_laws_eqDevice Go.Proofs.Try.f174 [(Go.Eng.AV.agg [(Go.Eng.SV.int Go.IntKind.i64 n), (Go.Eng.SV.int Go.IntKind.i64 n1), (Go.Eng.SV.int Go.IntKind.i64 n2)]), (Go.Eng.AV.agg [(Go.Eng.SV.int Go.IntKind.i64 n3), (Go.Eng.SV.int Go.IntKind.i64 n4), (Go.Eng.SV.int Go.IntKind.i64 n5)])] [] K =
      g_laws_eqDevice N n n1 n2 n3 n4 n5 (fun b => K (Go.Eng.AV.sc (Go.Eng.SV.bool b)) []) := by kernel_rfl
def o_laws_eqDevice (N : Nat) {R : Type} (args : List AV) (H : Hp E) (K : AV → Hp E → Option R) : Option R :=
  match args, H with
  | [(Go.Eng.AV.agg [(Go.Eng.SV.int Go.IntKind.i64 n), (Go.Eng.SV.int Go.IntKind.i64 n1), (Go.Eng.SV.int Go.IntKind.i64 n2)]), (Go.Eng.AV.agg [(Go.Eng.SV.int Go.IntKind.i64 n3), (Go.Eng.SV.int Go.IntKind.i64 n4), (Go.Eng.SV.int Go.IntKind.i64 n5)])], [] => g_laws_eqDevice N n n1 n2 n3 n4 n5 (fun b => K (Go.Eng.AV.sc (Go.Eng.SV.bool b)) [])
  | _, _ => none
theorem o_laws_eqDevice_ok (N : Nat) : FnOk E 174 (o_laws_eqDevice N) := by
  intro R args H K r h
  unfold o_laws_eqDevice at h
  dsimp only at h
  split at h
  · exact fnB_ok (ids := []) (top := []) ok (O_laws_eqDevice_ok N) (jn_ok _ _) Go.Proofs.Try.func174 (by kernel_rfl) (IT := noIt) (sl := sl_laws_eqDevice) (J := J_laws_eqDevice) (K := K) (H := []) (noIt_ok) (by kernel_rfl) rfl ((e_laws_eqDevice N _ _ _ _ _ _ K).trans h)
  · cases h
/-! ### loop.example/g00038/laws.eqDeviceS -/
abbrev sl_laws_eqDeviceS_ww : SlotT := [(0, ([0, 1, 5], [4]))]
abbrev J_laws_eqDeviceS_ww : JT := jn [] []
noncomputable def O_laws_eqDeviceS_ww (N : Nat) : Orc E := addFn 174 (o_laws_eqDevice N) (noFn)
theorem O_laws_eqDeviceS_ww_ok (N : Nat) : OrcOk (O_laws_eqDeviceS_ww N) := addFn_ok (o_laws_eqDevice_ok N) (noFn_ok)
def s_laws_eqDeviceS_ww_0 (N : Nat) {R : Type} (b2 : Bool) (b3 : Bool) (l2 : List Go.Sa.Device) (l3 : List Go.Sa.Device) (n : Int) (ag : Int → Option R)  (kR : Option R) (kN : Option R) : Option R :=
  (cond (decide ((n < (((List.length l2) : Nat) : Int))))
  (cond ((decide (((0 : Int) ≤ n))) && (decide ((n < (((List.length l2) : Nat) : Int)))))
    (elemK l2 (Int.toNat n) fun x =>
      (cond ((decide (((0 : Int) ≤ n))) && (decide ((n < (((List.length l3) : Nat) : Int)))))
      (elemK l3 (Int.toNat n) fun x1 =>
        (g_laws_eqDevice N (Go.Sa.Device.fKind x) (Go.Sa.Device.fPort x) (Go.Sa.Device.fLine x) (Go.Sa.Device.fKind x1) (Go.Sa.Device.fPort x1) (Go.Sa.Device.fLine x1) fun b4 =>
        (cond (!b4)
        kR
        (ag (Go.IntKind.wrap Go.IntKind.i64 (n + (1 : Int)))))))
      none))
    none)
  kN)
def l_laws_eqDeviceS_ww_0 (N : Nat) {R : Type} (b2 : Bool) (b3 : Bool) (l2 : List Go.Sa.Device) (l3 : List Go.Sa.Device) (kR : Option R) (kN : Option R) : Nat → Int → Option R
  | 0, _ => none
  | f + 1, n => s_laws_eqDeviceS_ww_0 N b2 b3 l2 l3 n (fun n => l_laws_eqDeviceS_ww_0 N b2 b3 l2 l3 kR kN f n)  kR kN
def c_laws_eqDeviceS_ww_0 (N : Nat) {R : Type} (b2 : Bool) (b3 : Bool) (l2 : List Go.Sa.Device) (l3 : List Go.Sa.Device) (n : Int) (kR : Option R) (kN : Option R) : Option R := l_laws_eqDeviceS_ww_0 N b2 b3 l2 l3 kR kN N n
theorem se_laws_eqDeviceS_ww_0 (N : Nat) {R : Type} (b2 : Bool) (b3 : Bool) (l2 : List Go.Sa.Device) (l3 : List Go.Sa.Device) (n : Int) (AG : List (Option AV) → Hp E → Option R) (KL : Ex → List (Option AV) → Hp E → Option R) :
    iterStep (E := E) (O_laws_eqDeviceS_ww N) (fun {R} => LI (noIt) 2 27 sl_laws_eqDeviceS_ww (R := R)) J_laws_eqDeviceS_ww 2 27 0 [0, 1, 5] [4] (body Go.Proofs.Try.f155 0) AG KL [(Option.some (Go.Eng.AV.sc (Go.Eng.SV.slc 0 Option.none b2))), (Option.some (Go.Eng.AV.sc (Go.Eng.SV.slc 1 Option.none b3))), (Option.some (Go.Eng.AV.sc (Go.Eng.SV.int Go.IntKind.i64 n)))] [(Option.some (Go.Eng.HE.mk Bool.false (Go.Eng.HB.rows (Go.Sa.B.iDevice l2)))), (Option.some (Go.Eng.HE.mk Bool.false (Go.Eng.HB.rows (Go.Sa.B.iDevice l3))))] =
      s_laws_eqDeviceS_ww_0 N b2 b3 l2 l3 n (fun n => AG [(Option.some (Go.Eng.AV.sc (Go.Eng.SV.slc 0 Option.none b2))), (Option.some (Go.Eng.AV.sc (Go.Eng.SV.slc 1 Option.none b3))), (Option.some (Go.Eng.AV.sc (Go.Eng.SV.int Go.IntKind.i64 n)))] [(Option.some (Go.Eng.HE.mk Bool.false (Go.Eng.HB.rows (Go.Sa.B.iDevice l2)))), (Option.some (Go.Eng.HE.mk Bool.false (Go.Eng.HB.rows (Go.Sa.B.iDevice l3))))])  (KL Go.Eng.Ex.ret [(Option.some (Go.Eng.AV.sc (Go.Eng.SV.bool Bool.false)))] [(Option.some (Go.Eng.HE.mk Bool.false (Go.Eng.HB.rows (Go.Sa.B.iDevice l2)))), (Option.some (Go.Eng.HE.mk Bool.false (Go.Eng.HB.rows (Go.Sa.B.iDevice l3))))]) (KL Go.Eng.Ex.normal [Option.none] [(Option.some (Go.Eng.HE.mk Bool.false (Go.Eng.HB.rows (Go.Sa.B.iDevice l2)))), (Option.some (Go.Eng.HE.mk Bool.false (Go.Eng.HB.rows (Go.Sa.B.iDevice l3))))]) := by kernel_rfl
theorem le_laws_eqDeviceS_ww_0 (N : Nat) {R : Type} (b2 : Bool) (b3 : Bool) (l2 : List Go.Sa.Device) (l3 : List Go.Sa.Device) (KL : Ex → List (Option AV) → Hp E → Option R) : ∀ (f : Nat), ∀ (n : Int), iterK (E := E) (O_laws_eqDeviceS_ww N) (fun {R} => LI (noIt) 2 27 sl_laws_eqDeviceS_ww (R := R)) J_laws_eqDeviceS_ww 2 27 0 [0, 1, 5] [4] (body Go.Proofs.Try.f155 0) f [(Option.some (Go.Eng.AV.sc (Go.Eng.SV.slc 0 Option.none b2))), (Option.some (Go.Eng.AV.sc (Go.Eng.SV.slc 1 Option.none b3))), (Option.some (Go.Eng.AV.sc (Go.Eng.SV.int Go.IntKind.i64 n)))] [(Option.some (Go.Eng.HE.mk Bool.false (Go.Eng.HB.rows (Go.Sa.B.iDevice l2)))), (Option.some (Go.Eng.HE.mk Bool.false (Go.Eng.HB.rows (Go.Sa.B.iDevice l3))))] KL = l_laws_eqDeviceS_ww_0 N b2 b3 l2 l3 (KL Go.Eng.Ex.ret [(Option.some (Go.Eng.AV.sc (Go.Eng.SV.bool Bool.false)))] [(Option.some (Go.Eng.HE.mk Bool.false (Go.Eng.HB.rows (Go.Sa.B.iDevice l2)))), (Option.some (Go.Eng.HE.mk Bool.false (Go.Eng.HB.rows (Go.Sa.B.iDevice l3))))]) (KL Go.Eng.Ex.normal [Option.none] [(Option.some (Go.Eng.HE.mk Bool.false (Go.Eng.HB.rows (Go.Sa.B.iDevice l2)))), (Option.some (Go.Eng.HE.mk Bool.false (Go.Eng.HB.rows (Go.Sa.B.iDevice l3))))]) f n := by
  intro f
  induction f with
  | zero => intros; rfl
  | succ f ih =>
    intro n
    rw [iterK_succ, se_laws_eqDeviceS_ww_0]
    exact (congrArg (fun z0 => s_laws_eqDeviceS_ww_0 N b2 b3 l2 l3 n z0 (KL Go.Eng.Ex.ret [(Option.some (Go.Eng.AV.sc (Go.Eng.SV.bool Bool.false)))] [(Option.some (Go.Eng.HE.mk Bool.false (Go.Eng.HB.rows (Go.Sa.B.iDevice l2)))), (Option.some (Go.Eng.HE.mk Bool.false (Go.Eng.HB.rows (Go.Sa.B.iDevice l3))))]) (KL Go.Eng.Ex.normal [Option.none] [(Option.some (Go.Eng.HE.mk Bool.false (Go.Eng.HB.rows (Go.Sa.B.iDevice l2)))), (Option.some (Go.Eng.HE.mk Bool.false (Go.Eng.HB.rows (Go.Sa.B.iDevice l3))))])) (funext fun n => ih n))
def i_laws_eqDeviceS_ww_0 (N : Nat) {R : Type} (vs : List (Option AV)) (H : Hp E) (KL : Ex → List (Option AV) → Hp E → Option R) : Option R :=
  match vs, H with
  | [(Option.some (Go.Eng.AV.sc (Go.Eng.SV.slc 0 Option.none b2))), (Option.some (Go.Eng.AV.sc (Go.Eng.SV.slc 1 Option.none b3))), (Option.some (Go.Eng.AV.sc (Go.Eng.SV.int Go.IntKind.i64 n)))], [(Option.some (Go.Eng.HE.mk Bool.false (Go.Eng.HB.rows (Go.Sa.B.iDevice l2)))), (Option.some (Go.Eng.HE.mk Bool.false (Go.Eng.HB.rows (Go.Sa.B.iDevice l3))))] => c_laws_eqDeviceS_ww_0 N b2 b3 l2 l3 n (KL Go.Eng.Ex.ret [(Option.some (Go.Eng.AV.sc (Go.Eng.SV.bool Bool.false)))] [(Option.some (Go.Eng.HE.mk Bool.false (Go.Eng.HB.rows (Go.Sa.B.iDevice l2)))), (Option.some (Go.Eng.HE.mk Bool.false (Go.Eng.HB.rows (Go.Sa.B.iDevice l3))))]) (KL Go.Eng.Ex.normal [Option.none] [(Option.some (Go.Eng.HE.mk Bool.false (Go.Eng.HB.rows (Go.Sa.B.iDevice l2)))), (Option.some (Go.Eng.HE.mk Bool.false (Go.Eng.HB.rows (Go.Sa.B.iDevice l3))))])
  | _, _ => none
noncomputable def IT_laws_eqDeviceS_ww_0 (N : Nat) : Its E := addIt 0 (i_laws_eqDeviceS_ww_0 N) (noIt)
theorem IT_laws_eqDeviceS_ww_0_ok (N : Nat) : ItOk (IT_laws_eqDeviceS_ww_0 N) 2 27 sl_laws_eqDeviceS_ww (lsB Go.Proofs.Try.f155 [0]) :=
  addItB_ok (inner := []) ok (O_laws_eqDeviceS_ww_ok N) (jn_ok _ _) (noIt_ok) rfl (by kernel_rfl) rfl fun vs H KL r h => by
    unfold i_laws_eqDeviceS_ww_0 at h
    split at h
    · exact ⟨_, (le_laws_eqDeviceS_ww_0 N _ _ _ _ KL N _).trans h⟩
    · cases h
def g_laws_eqDeviceS_ww (N : Nat) {R : Type} (b : Bool) (b1 : Bool) (l : List Go.Sa.Device) (l1 : List Go.Sa.Device) (k : Bool → Option R) : Option R :=
  (cond ((((List.length l) : Nat) : Int) != (((List.length l1) : Nat) : Int))
  (k Bool.false)
  (c_laws_eqDeviceS_ww_0 N b b1 l l1 (0 : Int) (
    (k Bool.false)) (
    (k Bool.true))))
theorem e_laws_eqDeviceS_ww (N : Nat) {R : Type} (b : Bool) (b1 : Bool) (l : List Go.Sa.Device) (l1 : List Go.Sa.Device) (K : AV → Hp E → Option R) :
    runFnI (E := E) (O_laws_eqDeviceS_ww N) (IT_laws_eqDeviceS_ww_0 N) sl_laws_eqDeviceS_ww J_laws_eqDeviceS_ww Go.Proofs.Try.f155 [(Go.Eng.AV.sc (Go.Eng.SV.slc 0 Option.none b)), (Go.Eng.AV.sc (Go.Eng.SV.slc 1 Option.none b1))] [(Option.some (Go.Eng.HE.mk Bool.false (Go.Eng.HB.rows (Go.Sa.B.iDevice l)))), (Option.some (Go.Eng.HE.mk Bool.false (Go.Eng.HB.rows (Go.Sa.B.iDevice l1))))] K =
      g_laws_eqDeviceS_ww N b b1 l l1 (fun b5 => K (Go.Eng.AV.sc (Go.Eng.SV.bool b5)) [(Option.some (Go.Eng.HE.mk Bool.false (Go.Eng.HB.rows (Go.Sa.B.iDevice l)))), (Option.some (Go.Eng.HE.mk Bool.false (Go.Eng.HB.rows (Go.Sa.B.iDevice l1))))]) := by kernel_rfl
def o_laws_eqDeviceS_ww (N : Nat) {R : Type} (args : List AV) (H : Hp E) (K : AV → Hp E → Option R) : Option R :=
  match args, H with
  | [(Go.Eng.AV.sc (Go.Eng.SV.slc 0 Option.none b)), (Go.Eng.AV.sc (Go.Eng.SV.slc 1 Option.none b1))], [(Option.some (Go.Eng.HE.mk Bool.false (Go.Eng.HB.rows (Go.Sa.B.iDevice l)))), (Option.some (Go.Eng.HE.mk Bool.false (Go.Eng.HB.rows (Go.Sa.B.iDevice l1))))] => g_laws_eqDeviceS_ww N b b1 l l1 (fun b5 => K (Go.Eng.AV.sc (Go.Eng.SV.bool b5)) [(Option.some (Go.Eng.HE.mk Bool.false (Go.Eng.HB.rows (Go.Sa.B.iDevice l)))), (Option.some (Go.Eng.HE.mk Bool.false (Go.Eng.HB.rows (Go.Sa.B.iDevice l1))))])
  | _, _ => none
theorem o_laws_eqDeviceS_ww_ok (N : Nat) : FnOk E 155 (o_laws_eqDeviceS_ww N) := by
  intro R args H K r h
  unfold o_laws_eqDeviceS_ww at h
  dsimp only at h
  split at h
  · exact fnB_ok (ids := [0]) (top := [0]) ok (O_laws_eqDeviceS_ww_ok N) (jn_ok _ _) Go.Proofs.Try.func155 (by kernel_rfl) (IT := IT_laws_eqDeviceS_ww_0 N) (sl := sl_laws_eqDeviceS_ww) (J := J_laws_eqDeviceS_ww) (K := K) (H := [(Option.some (Go.Eng.HE.mk Bool.false (Go.Eng.HB.rows (Go.Sa.B.iDevice _)))), (Option.some (Go.Eng.HE.mk Bool.false (Go.Eng.HB.rows (Go.Sa.B.iDevice _))))]) (IT_laws_eqDeviceS_ww_0_ok N) (by kernel_rfl) rfl ((e_laws_eqDeviceS_ww N _ _ _ _ K).trans h)
  · cases h
/-! ### loop.example/g00038/laws.eqBoard -/
abbrev sl_laws_eqBoard_ww : SlotT := []
abbrev J_laws_eqBoard_ww : JT := jn [] []
noncomputable def O_laws_eqBoard_ww (N : Nat) : Orc E := addFn 155 (o_laws_eqDeviceS_ww N) (noFn)
theorem O_laws_eqBoard_ww_ok (N : Nat) : OrcOk (O_laws_eqBoard_ww N) := addFn_ok (o_laws_eqDeviceS_ww_ok N) (noFn_ok)
def g_laws_eqBoard_ww (N : Nat) {R : Type} (n : Int) (n1 : Int) (b : Bool) (n2 : Int) (n3 : Int) (b1 : Bool) (l : List Go.Sa.Device) (l1 : List Go.Sa.Device) (k : Bool → Option R) : Option R :=
  (cond (n != n2)
  (k Bool.false)
  (cond (n1 != n3)
    (k Bool.false)
    (g_laws_eqDeviceS_ww N b b1 l l1 fun b2 =>
      (cond (!b2)
      (k Bool.false)
      (k Bool.true)))))
theorem e_laws_eqBoard_ww (N : Nat) {R : Type} (n : Int) (n1 : Int) (b : Bool) (n2 : Int) (n3 : Int) (b1 : Bool) (l : List Go.Sa.Device) (l1 : List Go.Sa.Device) (K : AV → Hp E → Option R) :
    runFnI (E := E) (O_laws_eqBoard_ww N) (noIt) sl_laws_eqBoard_ww J_laws_eqBoard_ww Go.Proofs.Try.f87 [(Go.Eng.AV.agg [(Go.Eng.SV.int Go.IntKind.i64 n), (Go.Eng.SV.int Go.IntKind.i64 n1), (Go.Eng.SV.slc 0 Option.none b)]), (Go.Eng.AV.agg [(Go.Eng.SV.int Go.IntKind.i64 n2), (Go.Eng.SV.int Go.IntKind.i64 n3), (Go.Eng.SV.slc 1 Option.none b1)])] [(Option.some (Go.Eng.HE.mk Bool.false (Go.Eng.HB.rows (Go.Sa.B.iDevice l)))), (Option.some (Go.Eng.HE.mk Bool.false (Go.Eng.HB.rows (Go.Sa.B.iDevice l1))))] K =
      g_laws_eqBoard_ww N n n1 b n2 n3 b1 l l1 (fun b3 => K (Go.Eng.AV.sc (Go.Eng.SV.bool b3)) [(Option.some (Go.Eng.HE.mk Bool.false (Go.Eng.HB.rows (Go.Sa.B.iDevice l)))), (Option.some (Go.Eng.HE.mk Bool.false (Go.Eng.HB.rows (Go.Sa.B.iDevice l1))))]) := by kernel_rfl
def o_laws_eqBoard_ww (N : Nat) {R : Type} (args : List AV) (H : Hp E) (K : AV → Hp E → Option R) : Option R :=
  match args, H with
  | [(Go.Eng.AV.agg [(Go.Eng.SV.int Go.IntKind.i64 n), (Go.Eng.SV.int Go.IntKind.i64 n1), (Go.Eng.SV.slc 0 Option.none b)]), (Go.Eng.AV.agg [(Go.Eng.SV.int Go.IntKind.i64 n2), (Go.Eng.SV.int Go.IntKind.i64 n3), (Go.Eng.SV.slc 1 Option.none b1)])], [(Option.some (Go.Eng.HE.mk Bool.false (Go.Eng.HB.rows (Go.Sa.B.iDevice l)))), (Option.some (Go.Eng.HE.mk Bool.false (Go.Eng.HB.rows (Go.Sa.B.iDevice l1))))] => g_laws_eqBoard_ww N n n1 b n2 n3 b1 l l1 (fun b3 => K (Go.Eng.AV.sc (Go.Eng.SV.bool b3)) [(Option.some (Go.Eng.HE.mk Bool.false (Go.Eng.HB.rows (Go.Sa.B.iDevice l)))), (Option.some (Go.Eng.HE.mk Bool.false (Go.Eng.HB.rows (Go.Sa.B.iDevice l1))))])
  | _, _ => none
theorem o_laws_eqBoard_ww_ok (N : Nat) : FnOk E 87 (o_laws_eqBoard_ww N) := by
  intro R args H K r h
  unfold o_laws_eqBoard_ww at h
  dsimp only at h
  split at h
  · exact fnB_ok (ids := []) (top := []) ok (O_laws_eqBoard_ww_ok N) (jn_ok _ _) Go.Proofs.Try.func87 (by kernel_rfl) (IT := noIt) (sl := sl_laws_eqBoard_ww) (J := J_laws_eqBoard_ww) (K := K) (H := [(Option.some (Go.Eng.HE.mk Bool.false (Go.Eng.HB.rows (Go.Sa.B.iDevice _)))), (Option.some (Go.Eng.HE.mk Bool.false (Go.Eng.HB.rows (Go.Sa.B.iDevice _))))]) (noIt_ok) (by kernel_rfl) rfl ((e_laws_eqBoard_ww N _ _ _ _ _ _ _ _ K).trans h)
  · cases h
/-! ### loop.example/g00038/laws.eqBoardRead -/
abbrev sl_laws_eqBoardRead_ww : SlotT := []
abbrev J_laws_eqBoardRead_ww : JT := jn [] []
noncomputable def O_laws_eqBoardRead_ww (N : Nat) : Orc E := addFn 87 (o_laws_eqBoard_ww N) (noFn)
theorem O_laws_eqBoardRead_ww_ok (N : Nat) : OrcOk (O_laws_eqBoardRead_ww N) := addFn_ok (o_laws_eqBoard_ww_ok N) (noFn_ok)
def g_laws_eqBoardRead_ww (N : Nat) {R : Type} (b : Bool) (n : Int) (n1 : Int) (b1 : Bool) (b2 : Bool) (n2 : Int) (n3 : Int) (b3 : Bool) (l : List Go.Sa.Device) (l1 : List Go.Sa.Device) (k : Bool → Option R) : Option R :=
  (cond (!(b == b2))
  (k Bool.false)
  (g_laws_eqBoard_ww N n n1 b1 n2 n3 b3 l l1 fun b4 =>
    (cond (!b4)
    (k Bool.false)
    (k Bool.true))))
theorem e_laws_eqBoardRead_ww (N : Nat) {R : Type} (b : Bool) (n : Int) (n1 : Int) (b1 : Bool) (b2 : Bool) (n2 : Int) (n3 : Int) (b3 : Bool) (l : List Go.Sa.Device) (l1 : List Go.Sa.Device) (K : AV → Hp E → Option R) :
    runFnI (E := E) (O_laws_eqBoardRead_ww N) (noIt) sl_laws_eqBoardRead_ww J_laws_eqBoardRead_ww Go.Proofs.Try.f29 [(Go.Eng.AV.agg [(Go.Eng.SV.bool b), (Go.Eng.SV.int Go.IntKind.i64 n), (Go.Eng.SV.int Go.IntKind.i64 n1), (Go.Eng.SV.slc 0 Option.none b1)]), (Go.Eng.AV.agg [(Go.Eng.SV.bool b2), (Go.Eng.SV.int Go.IntKind.i64 n2), (Go.Eng.SV.int Go.IntKind.i64 n3), (Go.Eng.SV.slc 1 Option.none b3)])] [(Option.some (Go.Eng.HE.mk Bool.false (Go.Eng.HB.rows (Go.Sa.B.iDevice l)))), (Option.some (Go.Eng.HE.mk Bool.false (Go.Eng.HB.rows (Go.Sa.B.iDevice l1))))] K =
      g_laws_eqBoardRead_ww N b n n1 b1 b2 n2 n3 b3 l l1 (fun b5 => K (Go.Eng.AV.sc (Go.Eng.SV.bool b5)) [(Option.some (Go.Eng.HE.mk Bool.false (Go.Eng.HB.rows (Go.Sa.B.iDevice l)))), (Option.some (Go.Eng.HE.mk Bool.false (Go.Eng.HB.rows (Go.Sa.B.iDevice l1))))]) := by kernel_rfl
def o_laws_eqBoardRead_ww (N : Nat) {R : Type} (args : List AV) (H : Hp E) (K : AV → Hp E → Option R) : Option R :=
  match args, H with
  | [(Go.Eng.AV.agg [(Go.Eng.SV.bool b), (Go.Eng.SV.int Go.IntKind.i64 n), (Go.Eng.SV.int Go.IntKind.i64 n1), (Go.Eng.SV.slc 0 Option.none b1)]), (Go.Eng.AV.agg [(Go.Eng.SV.bool b2), (Go.Eng.SV.int Go.IntKind.i64 n2), (Go.Eng.SV.int Go.IntKind.i64 n3), (Go.Eng.SV.slc 1 Option.none b3)])], [(Option.some (Go.Eng.HE.mk Bool.false (Go.Eng.HB.rows (Go.Sa.B.iDevice l)))), (Option.some (Go.Eng.HE.mk Bool.false (Go.Eng.HB.rows (Go.Sa.B.iDevice l1))))] => g_laws_eqBoardRead_ww N b n n1 b1 b2 n2 n3 b3 l l1 (fun b5 => K (Go.Eng.AV.sc (Go.Eng.SV.bool b5)) [(Option.some (Go.Eng.HE.mk Bool.false (Go.Eng.HB.rows (Go.Sa.B.iDevice l)))), (Option.some (Go.Eng.HE.mk Bool.false (Go.Eng.HB.rows (Go.Sa.B.iDevice l1))))])
  | _, _ => none
theorem o_laws_eqBoardRead_ww_ok (N : Nat) : FnOk E 29 (o_laws_eqBoardRead_ww N) := by
  intro R args H K r h
  unfold o_laws_eqBoardRead_ww at h
  dsimp only at h
  split at h
  · exact fnB_ok (ids := []) (top := []) ok (O_laws_eqBoardRead_ww_ok N) (jn_ok _ _) Go.Proofs.Try.func29 (by kernel_rfl) (IT := noIt) (sl := sl_laws_eqBoardRead_ww) (J := J_laws_eqBoardRead_ww) (K := K) (H := [(Option.some (Go.Eng.HE.mk Bool.false (Go.Eng.HB.rows (Go.Sa.B.iDevice _)))), (Option.some (Go.Eng.HE.mk Bool.false (Go.Eng.HB.rows (Go.Sa.B.iDevice _))))]) (noIt_ok) (by kernel_rfl) rfl ((e_laws_eqBoardRead_ww N _ _ _ _ _ _ _ _ _ _ K).trans h)
  · cases h
/-! ### loop.example/g00038/laws.eqFirmTable -/
abbrev sl_laws_eqFirmTable : SlotT := []
abbrev J_laws_eqFirmTable : JT := jn [] []
noncomputable def O_laws_eqFirmTable (N : Nat) : Orc E := noFn
theorem O_laws_eqFirmTable_ok (N : Nat) : OrcOk (O_laws_eqFirmTable N) := noFn_ok
def g_laws_eqFirmTable (N : Nat) {R : Type} (s : ByteArray) (n : Int) (s1 : ByteArray) (s2 : ByteArray) (n1 : Int) (s3 : ByteArray) (k : Bool → Option R) : Option R :=
  (cond (!(decide ((s = s2))))
  (k Bool.false)
  (cond (n != n1)
    (k Bool.false)
    (cond (!(decide ((s1 = s3))))
      (k Bool.false)
      (k Bool.true))))
theorem e_laws_eqFirmTable (N : Nat) {R : Type} (s : ByteArray) (n : Int) (s1 : ByteArray) (s2 : ByteArray) (n1 : Int) (s3 : ByteArray) (K : AV → Hp E → Option R) :
    runFnI (E := E) (O_laws_eqFirmTable N) (noIt) sl_laws_eqFirmTable J_laws_eqFirmTable Go.Proofs.Try.f88 [(Go.Eng.AV.agg [(Go.Eng.SV.str s), (Go.Eng.SV.int Go.IntKind.i64 n), (Go.Eng.SV.str s1)]), (Go.Eng.AV.agg [(Go.Eng.SV.str s2), (Go.Eng.SV.int Go.IntKind.i64 n1), (Go.Eng.SV.str s3)])] [] K =
      g_laws_eqFirmTable N s n s1 s2 n1 s3 (fun b => K (Go.Eng.AV.sc (Go.Eng.SV.bool b)) []) := by kernel_rfl
def o_laws_eqFirmTable (N : Nat) {R : Type} (args : List AV) (H : Hp E) (K : AV → Hp E → Option R) : Option R :=
  match args, H with
  | [(Go.Eng.AV.agg [(Go.Eng.SV.str s), (Go.Eng.SV.int Go.IntKind.i64 n), (Go.Eng.SV.str s1)]), (Go.Eng.AV.agg [(Go.Eng.SV.str s2), (Go.Eng.SV.int Go.IntKind.i64 n1), (Go.Eng.SV.str s3)])], [] => g_laws_eqFirmTable N s n s1 s2 n1 s3 (fun b => K (Go.Eng.AV.sc (Go.Eng.SV.bool b)) [])
  | _, _ => none
theorem o_laws_eqFirmTable_ok (N : Nat) : FnOk E 88 (o_laws_eqFirmTable N) := by
  intro R args H K r h
  unfold o_laws_eqFirmTable at h
  dsimp only at h
  split at h
  · exact fnB_ok (ids := []) (top := []) ok (O_laws_eqFirmTable_ok N) (jn_ok _ _) Go.Proofs.Try.func88 (by kernel_rfl) (IT := noIt) (sl := sl_laws_eqFirmTable) (J := J_laws_eqFirmTable) (K := K) (H := []) (noIt_ok) (by kernel_rfl) rfl ((e_laws_eqFirmTable N _ _ _ _ _ _ K).trans h)
  · cases h
/-! ### loop.example/g00038/laws.eqFirmTableS -/
abbrev sl_laws_eqFirmTableS_ww : SlotT := [(0, ([0, 1, 5], [4]))]
abbrev J_laws_eqFirmTableS_ww : JT := jn [] []
noncomputable def O_laws_eqFirmTableS_ww (N : Nat) : Orc E := addFn 88 (o_laws_eqFirmTable N) (noFn)
theorem O_laws_eqFirmTableS_ww_ok (N : Nat) : OrcOk (O_laws_eqFirmTableS_ww N) := addFn_ok (o_laws_eqFirmTable_ok N) (noFn_ok)
def s_laws_eqFirmTableS_ww_0 (N : Nat) {R : Type} (b2 : Bool) (b3 : Bool) (l2 : List Go.Sa.FirmTable) (l3 : List Go.Sa.FirmTable) (n : Int) (ag : Int → Option R)  (kR : Option R) (kN : Option R) : Option R :=
  (cond (decide ((n < (((List.length l2) : Nat) : Int))))
  (cond ((decide (((0 : Int) ≤ n))) && (decide ((n < (((List.length l2) : Nat) : Int)))))
    (elemK l2 (Int.toNat n) fun x =>
      (cond ((decide (((0 : Int) ≤ n))) && (decide ((n < (((List.length l3) : Nat) : Int)))))
      (elemK l3 (Int.toNat n) fun x1 =>
        (g_laws_eqFirmTable N (Go.Sa.FirmTable.fName x) (Go.Sa.FirmTable.fRev x) (Go.Sa.FirmTable.fBody x) (Go.Sa.FirmTable.fName x1) (Go.Sa.FirmTable.fRev x1) (Go.Sa.FirmTable.fBody x1) fun b4 =>
        (cond (!b4)
        kR
        (ag (Go.IntKind.wrap Go.IntKind.i64 (n + (1 : Int)))))))
      none))
    none)
  kN)
def l_laws_eqFirmTableS_ww_0 (N : Nat) {R : Type} (b2 : Bool) (b3 : Bool) (l2 : List Go.Sa.FirmTable) (l3 : List Go.Sa.FirmTable) (kR : Option R) (kN : Option R) : Nat → Int → Option R
  | 0, _ => none
  | f + 1, n => s_laws_eqFirmTableS_ww_0 N b2 b3 l2 l3 n (fun n => l_laws_eqFirmTableS_ww_0 N b2 b3 l2 l3 kR kN f n)  kR kN
def c_laws_eqFirmTableS_ww_0 (N : Nat) {R : Type} (b2 : Bool) (b3 : Bool) (l2 : List Go.Sa.FirmTable) (l3 : List Go.Sa.FirmTable) (n : Int) (kR : Option R) (kN : Option R) : Option R := l_laws_eqFirmTableS_ww_0 N b2 b3 l2 l3 kR kN N n
theorem se_laws_eqFirmTableS_ww_0 (N : Nat) {R : Type} (b2 : Bool) (b3 : Bool) (l2 : List Go.Sa.FirmTable) (l3 : List Go.Sa.FirmTable) (n : Int) (AG : List (Option AV) → Hp E → Option R) (KL : Ex → List (Option AV) → Hp E → Option R) :
    iterStep (E := E) (O_laws_eqFirmTableS_ww N) (fun {R} => LI (noIt) 2 27 sl_laws_eqFirmTableS_ww (R := R)) J_laws_eqFirmTableS_ww 2 27 0 [0, 1, 5] [4] (body Go.Proofs.Try.f30 0) AG KL [(Option.some (Go.Eng.AV.sc (Go.Eng.SV.slc 0 Option.none b2))), (Option.some (Go.Eng.AV.sc (Go.Eng.SV.slc 1 Option.none b3))), (Option.some (Go.Eng.AV.sc (Go.Eng.SV.int Go.IntKind.i64 n)))] [(Option.some (Go.Eng.HE.mk Bool.false (Go.Eng.HB.rows (Go.Sa.B.iFirmTable l2)))), (Option.some (Go.Eng.HE.mk Bool.false (Go.Eng.HB.rows (Go.Sa.B.iFirmTable l3))))] =
      s_laws_eqFirmTableS_ww_0 N b2 b3 l2 l3 n (fun n => AG [(Option.some (Go.Eng.AV.sc (Go.Eng.SV.slc 0 Option.none b2))), (Option.some (Go.Eng.AV.sc (Go.Eng.SV.slc 1 Option.none b3))), (Option.some (Go.Eng.AV.sc (Go.Eng.SV.int Go.IntKind.i64 n)))] [(Option.some (Go.Eng.HE.mk Bool.false (Go.Eng.HB.rows (Go.Sa.B.iFirmTable l2)))), (Option.some (Go.Eng.HE.mk Bool.false (Go.Eng.HB.rows (Go.Sa.B.iFirmTable l3))))])  (KL Go.Eng.Ex.ret [(Option.some (Go.Eng.AV.sc (Go.Eng.SV.bool Bool.false)))] [(Option.some (Go.Eng.HE.mk Bool.false (Go.Eng.HB.rows (Go.Sa.B.iFirmTable l2)))), (Option.some (Go.Eng.HE.mk Bool.false (Go.Eng.HB.rows (Go.Sa.B.iFirmTable l3))))]) (KL Go.Eng.Ex.normal [Option.none] [(Option.some (Go.Eng.HE.mk Bool.false (Go.Eng.HB.rows (Go.Sa.B.iFirmTable l2)))), (Option.some (Go.Eng.HE.mk Bool.false (Go.Eng.HB.rows (Go.Sa.B.iFirmTable l3))))]) := by kernel_rfl
theorem le_laws_eqFirmTableS_ww_0 (N : Nat) {R : Type} (b2 : Bool) (b3 : Bool) (l2 : List Go.Sa.FirmTable) (l3 : List Go.Sa.FirmTable) (KL : Ex → List (Option AV) → Hp E → Option R) : ∀ (f : Nat), ∀ (n : Int), iterK (E := E) (O_laws_eqFirmTableS_ww N) (fun {R} => LI (noIt) 2 27 sl_laws_eqFirmTableS_ww (R := R)) J_laws_eqFirmTableS_ww 2 27 0 [0, 1, 5] [4] (body Go.Proofs.Try.f30 0) f [(Option.some (Go.Eng.AV.sc (Go.Eng.SV.slc 0 Option.none b2))), (Option.some (Go.Eng.AV.sc (Go.Eng.SV.slc 1 Option.none b3))), (Option.some (Go.Eng.AV.sc (Go.Eng.SV.int Go.IntKind.i64 n)))] [(Option.some (Go.Eng.HE.mk Bool.false (Go.Eng.HB.rows (Go.Sa.B.iFirmTable l2)))), (Option.some (Go.Eng.HE.mk Bool.false (Go.Eng.HB.rows (Go.Sa.B.iFirmTable l3))))] KL = l_laws_eqFirmTableS_ww_0 N b2 b3 l2 l3 (KL Go.Eng.Ex.ret [(Option.some (Go.Eng.AV.sc (Go.Eng.SV.bool Bool.false)))] [(Option.some (Go.Eng.HE.mk Bool.false (Go.Eng.HB.rows (Go.Sa.B.iFirmTable l2)))), (Option.some (Go.Eng.HE.mk Bool.false (Go.Eng.HB.rows (Go.Sa.B.iFirmTable l3))))]) (KL Go.Eng.Ex.normal [Option.none] [(Option.some (Go.Eng.HE.mk Bool.false (Go.Eng.HB.rows (Go.Sa.B.iFirmTable l2)))), (Option.some (Go.Eng.HE.mk Bool.false (Go.Eng.HB.rows (Go.Sa.B.iFirmTable l3))))]) f n := by
  intro f
  induction f with
  | zero => intros; rfl
  | succ f ih =>
    intro n
    rw [iterK_succ, se_laws_eqFirmTableS_ww_0]
    exact (congrArg (fun z0 => s_laws_eqFirmTableS_ww_0 N b2 b3 l2 l3 n z0 (KL Go.Eng.Ex.ret [(Option.some (Go.Eng.AV.sc (Go.Eng.SV.bool Bool.false)))] [(Option.some (Go.Eng.HE.mk Bool.false (Go.Eng.HB.rows (Go.Sa.B.iFirmTable l2)))), (Option.some (Go.Eng.HE.mk Bool.false (Go.Eng.HB.rows (Go.Sa.B.iFirmTable l3))))]) (KL Go.Eng.Ex.normal [Option.none] [(Option.some (Go.Eng.HE.mk Bool.false (Go.Eng.HB.rows (Go.Sa.B.iFirmTable l2)))), (Option.some (Go.Eng.HE.mk Bool.false (Go.Eng.HB.rows (Go.Sa.B.iFirmTable l3))))])) (funext fun n => ih n))
def i_laws_eqFirmTableS_ww_0 (N : Nat) {R : Type} (vs : List (Option AV)) (H : Hp E) (KL : Ex → List (Option AV) → Hp E → Option R) : Option R :=
  match vs, H with
  | [(Option.some (Go.Eng.AV.sc (Go.Eng.SV.slc 0 Option.none b2))), (Option.some (Go.Eng.AV.sc (Go.Eng.SV.slc 1 Option.none b3))), (Option.some (Go.Eng.AV.sc (Go.Eng.SV.int Go.IntKind.i64 n)))], [(Option.some (Go.Eng.HE.mk Bool.false (Go.Eng.HB.rows (Go.Sa.B.iFirmTable l2)))), (Option.some (Go.Eng.HE.mk Bool.false (Go.Eng.HB.rows (Go.Sa.B.iFirmTable l3))))] => c_laws_eqFirmTableS_ww_0 N b2 b3 l2 l3 n (KL Go.Eng.Ex.ret [(Option.some (Go.Eng.AV.sc (Go.Eng.SV.bool Bool.false)))] [(Option.some (Go.Eng.HE.mk Bool.false (Go.Eng.HB.rows (Go.Sa.B.iFirmTable l2)))), (Option.some (Go.Eng.HE.mk Bool.false (Go.Eng.HB.rows (Go.Sa.B.iFirmTable l3))))]) (KL Go.Eng.Ex.normal [Option.none] [(Option.some (Go.Eng.HE.mk Bool.false (Go.Eng.HB.rows (Go.Sa.B.iFirmTable l2)))), (Option.some (Go.Eng.HE.mk Bool.false (Go.Eng.HB.rows (Go.Sa.B.iFirmTable l3))))])
  | _, _ => none
noncomputable def IT_laws_eqFirmTableS_ww_0 (N : Nat) : Its E := addIt 0 (i_laws_eqFirmTableS_ww_0 N) (noIt)
theorem IT_laws_eqFirmTableS_ww_0_ok (N : Nat) : ItOk (IT_laws_eqFirmTableS_ww_0 N) 2 27 sl_laws_eqFirmTableS_ww (lsB Go.Proofs.Try.f30 [0]) :=
  addItB_ok (inner := []) ok (O_laws_eqFirmTableS_ww_ok N) (jn_ok _ _) (noIt_ok) rfl (by kernel_rfl) rfl fun vs H KL r h => by
    unfold i_laws_eqFirmTableS_ww_0 at h
    split at h
    · exact ⟨_, (le_laws_eqFirmTableS_ww_0 N _ _ _ _ KL N _).trans h⟩
    · cases h
def g_laws_eqFirmTableS_ww (N : Nat) {R : Type} (b : Bool) (b1 : Bool) (l : List Go.Sa.FirmTable) (l1 : List Go.Sa.FirmTable) (k : Bool → Option R) : Option R :=
  (cond ((((List.length l) : Nat) : Int) != (((List.length l1) : Nat) : Int))
  (k Bool.false)
  (c_laws_eqFirmTableS_ww_0 N b b1 l l1 (0 : Int) (
    (k Bool.false)) (
    (k Bool.true))))
theorem e_laws_eqFirmTableS_ww (N : Nat) {R : Type} (b : Bool) (b1 : Bool) (l : List Go.Sa.FirmTable) (l1 : List Go.Sa.FirmTable) (K : AV → Hp E → Option R) :
    runFnI (E := E) (O_laws_eqFirmTableS_ww N) (IT_laws_eqFirmTableS_ww_0 N) sl_laws_eqFirmTableS_ww J_laws_eqFirmTableS_ww Go.Proofs.Try.f30 [(Go.Eng.AV.sc (Go.Eng.SV.slc 0 Option.none b)), (Go.Eng.AV.sc (Go.Eng.SV.slc 1 Option.none b1))] [(Option.some (Go.Eng.HE.mk Bool.false (Go.Eng.HB.rows (Go.Sa.B.iFirmTable l)))), (Option.some (Go.Eng.HE.mk Bool.false (Go.Eng.HB.rows (Go.Sa.B.iFirmTable l1))))] K =
      g_laws_eqFirmTableS_ww N b b1 l l1 (fun b5 => K (Go.Eng.AV.sc (Go.Eng.SV.bool b5)) [(Option.some (Go.Eng.HE.mk Bool.false (Go.Eng.HB.rows (Go.Sa.B.iFirmTable l)))), (Option.some (Go.Eng.HE.mk Bool.false (Go.Eng.HB.rows (Go.Sa.B.iFirmTable l1))))]) := by kernel_rfl
def o_laws_eqFirmTableS_ww (N : Nat) {R : Type} (args : List AV) (H : Hp E) (K : AV → Hp E → Option R) : Option R :=
  match args, H with
  | [(Go.Eng.AV.sc (Go.Eng.SV.slc 0 Option.none b)), (Go.Eng.AV.sc (Go.Eng.SV.slc 1 Option.none b1))], [(Option.some (Go.Eng.HE.mk Bool.false (Go.Eng.HB.rows (Go.Sa.B.iFirmTable l)))), (Option.some (Go.Eng.HE.mk Bool.false (Go.Eng.HB.rows (Go.Sa.B.iFirmTable l1))))] => g_laws_eqFirmTableS_ww N b b1 l l1 (fun b5 => K (Go.Eng.AV.sc (Go.Eng.SV.bool b5)) [(Option.some (Go.Eng.HE.mk Bool.false (Go.Eng.HB.rows (Go.Sa.B.iFirmTable l)))), (Option.some (Go.Eng.HE.mk Bool.false (Go.Eng.HB.rows (Go.Sa.B.iFirmTable l1))))])
  | _, _ => none
theorem o_laws_eqFirmTableS_ww_ok (N : Nat) : FnOk E 30 (o_laws_eqFirmTableS_ww N) := by
  intro R args H K r h
  unfold o_laws_eqFirmTableS_ww at h
  dsimp only at h
  split at h
  · exact fnB_ok (ids := [0]) (top := [0]) ok (O_laws_eqFirmTableS_ww_ok N) (jn_ok _ _) Go.Proofs.Try.func30 (by kernel_rfl) (IT := IT_laws_eqFirmTableS_ww_0 N) (sl := sl_laws_eqFirmTableS_ww) (J := J_laws_eqFirmTableS_ww) (K := K) (H := [(Option.some (Go.Eng.HE.mk Bool.false (Go.Eng.HB.rows (Go.Sa.B.iFirmTable _)))), (Option.some (Go.Eng.HE.mk Bool.false (Go.Eng.HB.rows (Go.Sa.B.iFirmTable _))))]) (IT_laws_eqFirmTableS_ww_0_ok N) (by kernel_rfl) rfl ((e_laws_eqFirmTableS_ww N _ _ _ _ K).trans h)
  · cases h
/-! ### loop.example/g00038/laws.markText -/
abbrev sl_laws_markText : SlotT := [(0, ([0, 3], [3]))]
abbrev J_laws_markText : JT := jn [] []
noncomputable def O_laws_markText (N : Nat) : Orc E := noFn
theorem O_laws_markText_ok (N : Nat) : OrcOk (O_laws_markText N) := noFn_ok
def s_laws_markText_0 (N : Nat) {R : Type}  (n1 : Int) (s : ByteArray) (ag : Int → ByteArray → Option R)  (kN : ByteArray → Option R) : Option R :=
  (cond (decide ((n1 > (0 : Int))))
  (cond (Nat.ble ((ByteArray.size (Go.Eng.toBytes (Go.Eng.seg [(Go.IntKind.wrap Go.IntKind.u8 (Go.IntKind.wrap Go.IntKind.i64 ((48 : Int) + (Int.tmod n1 (10 : Int)))))] 0 (List.length [(Go.IntKind.wrap Go.IntKind.u8 (Go.IntKind.wrap Go.IntKind.i64 ((48 : Int) + (Int.tmod n1 (10 : Int)))))])))) + (ByteArray.size s)) 9223372036854775807)
    (ag (Go.IntKind.wrap Go.IntKind.i64 (Int.tdiv n1 (10 : Int))) ((Go.Eng.toBytes (Go.Eng.seg [(Go.IntKind.wrap Go.IntKind.u8 (Go.IntKind.wrap Go.IntKind.i64 ((48 : Int) + (Int.tmod n1 (10 : Int)))))] 0 (List.length [(Go.IntKind.wrap Go.IntKind.u8 (Go.IntKind.wrap Go.IntKind.i64 ((48 : Int) + (Int.tmod n1 (10 : Int)))))]))) ++ s))
    none)
  (kN s))
def l_laws_markText_0 (N : Nat) {R : Type}  (kN : ByteArray → Option R) : Nat → Int → ByteArray → Option R
  | 0, _, _ => none
  | f + 1, n1, s => s_laws_markText_0 N  n1 s (fun n1 s => l_laws_markText_0 N  kN f n1 s)  kN
def c_laws_markText_0 (N : Nat) {R : Type}  (n1 : Int) (s : ByteArray) (kN : ByteArray → Option R) : Option R := l_laws_markText_0 N  kN N n1 s
theorem se_laws_markText_0 (N : Nat) {R : Type}  (n1 : Int) (s : ByteArray) (AG : List (Option AV) → Hp E → Option R) (KL : Ex → List (Option AV) → Hp E → Option R) :
    iterStep (E := E) (O_laws_markText N) (fun {R} => LI (noIt) 0 20 sl_laws_markText (R := R)) J_laws_markText 0 20 0 [0, 3] [3] (body Go.Proofs.Try.f89 0) AG KL [(Option.some (Go.Eng.AV.sc (Go.Eng.SV.int Go.IntKind.i64 n1))), (Option.some (Go.Eng.AV.sc (Go.Eng.SV.str s)))] [] =
      s_laws_markText_0 N  n1 s (fun n1 s => AG [(Option.some (Go.Eng.AV.sc (Go.Eng.SV.int Go.IntKind.i64 n1))), (Option.some (Go.Eng.AV.sc (Go.Eng.SV.str s)))] [])  (fun s3 => KL Go.Eng.Ex.normal [(Option.some (Go.Eng.AV.sc (Go.Eng.SV.str s3)))] []) := by kernel_rfl
theorem le_laws_markText_0 (N : Nat) {R : Type}  (KL : Ex → List (Option AV) → Hp E → Option R) : ∀ (f : Nat), ∀ (n1 : Int) (s : ByteArray), iterK (E := E) (O_laws_markText N) (fun {R} => LI (noIt) 0 20 sl_laws_markText (R := R)) J_laws_markText 0 20 0 [0, 3] [3] (body Go.Proofs.Try.f89 0) f [(Option.some (Go.Eng.AV.sc (Go.Eng.SV.int Go.IntKind.i64 n1))), (Option.some (Go.Eng.AV.sc (Go.Eng.SV.str s)))] [] KL = l_laws_markText_0 N  (fun s3 => KL Go.Eng.Ex.normal [(Option.some (Go.Eng.AV.sc (Go.Eng.SV.str s3)))] []) f n1 s := by
  intro f
  induction f with
  | zero => intros; rfl
  | succ f ih =>
    intro n1 s
    rw [iterK_succ, se_laws_markText_0]
    exact (congrArg (fun z0 => s_laws_markText_0 N  n1 s z0 (fun s3 => KL Go.Eng.Ex.normal [(Option.some (Go.Eng.AV.sc (Go.Eng.SV.str s3)))] [])) (funext fun n1 => funext fun s => ih n1 s))
def i_laws_markText_0 (N : Nat) {R : Type} (vs : List (Option AV)) (H : Hp E) (KL : Ex → List (Option AV) → Hp E → Option R) : Option R :=
  match vs, H with
  | [(Option.some (Go.Eng.AV.sc (Go.Eng.SV.int Go.IntKind.i64 n1))), (Option.some (Go.Eng.AV.sc (Go.Eng.SV.str s)))], [] => c_laws_markText_0 N  n1 s (fun s4 => KL Go.Eng.Ex.normal [(Option.some (Go.Eng.AV.sc (Go.Eng.SV.str s4)))] [])
  | _, _ => none
noncomputable def IT_laws_markText_0 (N : Nat) : Its E := addIt 0 (i_laws_markText_0 N) (noIt)
theorem IT_laws_markText_0_ok (N : Nat) : ItOk (IT_laws_markText_0 N) 0 20 sl_laws_markText (lsB Go.Proofs.Try.f89 [0]) :=
  addItB_ok (inner := []) ok (O_laws_markText_ok N) (jn_ok _ _) (noIt_ok) rfl (by kernel_rfl) rfl fun vs H KL r h => by
    unfold i_laws_markText_0 at h
    split at h
    · exact ⟨_, (le_laws_markText_0 N KL N _ _).trans h⟩
    · cases h
def g_laws_markText (N : Nat) {R : Type} (n : Int) (k : ByteArray → Option R) : Option R :=
  (cond (decide ((n ≤ (0 : Int))))
  (k (ByteArray.mk (List.toArray [(109 : UInt8), (48 : UInt8)])))
  (c_laws_markText_0 N n (ByteArray.mk (List.toArray [])) fun s1 =>
    (cond (Nat.ble (1 + (ByteArray.size s1)) 9223372036854775807)
    (k ((ByteArray.mk (List.toArray [(109 : UInt8)])) ++ s1))
    none)))
theorem e_laws_markText (N : Nat) {R : Type} (n : Int) (K : AV → Hp E → Option R) :
    runFnI (E := E) (O_laws_markText N) (IT_laws_markText_0 N) sl_laws_markText J_laws_markText Go.Proofs.Try.f89 [(Go.Eng.AV.sc (Go.Eng.SV.int Go.IntKind.i64 n))] [] K =
      g_laws_markText N n (fun s2 => K (Go.Eng.AV.sc (Go.Eng.SV.str s2)) []) := by kernel_rfl
def o_laws_markText (N : Nat) {R : Type} (args : List AV) (H : Hp E) (K : AV → Hp E → Option R) : Option R :=
  match args, H with
  | [(Go.Eng.AV.sc (Go.Eng.SV.int Go.IntKind.i64 n))], [] => g_laws_markText N n (fun s2 => K (Go.Eng.AV.sc (Go.Eng.SV.str s2)) [])
  | _, _ => none
theorem o_laws_markText_ok (N : Nat) : FnOk E 89 (o_laws_markText N) := by
  intro R args H K r h
  unfold o_laws_markText at h
  dsimp only at h
  split at h
  · exact fnB_ok (ids := [0]) (top := [0]) ok (O_laws_markText_ok N) (jn_ok _ _) Go.Proofs.Try.func89 (by kernel_rfl) (IT := IT_laws_markText_0 N) (sl := sl_laws_markText) (J := J_laws_markText) (K := K) (H := []) (IT_laws_markText_0_ok N) (by kernel_rfl) rfl ((e_laws_markText N _ K).trans h)
  · cases h
/-! ### loop.example/g00038/laws.markFirmTableS -/
abbrev sl_laws_markFirmTableS_w : SlotT := [(0, ([0, 1, 5], [1]))]
abbrev J_laws_markFirmTableS_w : JT := jn [] []
noncomputable def O_laws_markFirmTableS_w (N : Nat) : Orc E := addFn 89 (o_laws_markText N) (noFn)
theorem O_laws_markFirmTableS_w_ok (N : Nat) : OrcOk (O_laws_markFirmTableS_w N) := addFn_ok (o_laws_markText_ok N) (noFn_ok)
def s_laws_markFirmTableS_w_0 (N : Nat) {R : Type} (b1 : Bool) (n1 : Int) (n2 : Int) (l1 : List Go.Sa.FirmTable) (ag : Int → Int → (List Go.Sa.FirmTable) → Option R)  (kN : Int → (List Go.Sa.FirmTable) → Option R) : Option R :=
  (cond (decide ((n2 < (((List.length l1) : Nat) : Int))))
  (g_laws_markText N n1 fun s =>
    (cond ((decide (((0 : Int) ≤ n2))) && (decide ((n2 < (((List.length l1) : Nat) : Int)))))
    (elemK l1 (Int.toNat n2) fun x =>
      (cond (Nat.blt (Int.toNat n2) (List.length l1))
      (cond ((decide (((0 : Int) ≤ n2))) && (decide ((n2 < (((List.length (Go.Eng.nset l1 (Int.toNat n2) (Go.Sa.FirmTable.mk s (Go.Sa.FirmTable.fRev x) (Go.Sa.FirmTable.fBody x)))) : Nat) : Int)))))
        (elemK (Go.Eng.nset l1 (Int.toNat n2) (Go.Sa.FirmTable.mk s (Go.Sa.FirmTable.fRev x) (Go.Sa.FirmTable.fBody x))) (Int.toNat n2) fun x1 =>
          (cond (Nat.blt (Int.toNat n2) (List.length (Go.Eng.nset l1 (Int.toNat n2) (Go.Sa.FirmTable.mk s (Go.Sa.FirmTable.fRev x) (Go.Sa.FirmTable.fBody x)))))
          (g_laws_markText N (Go.IntKind.wrap Go.IntKind.i64 ((Go.IntKind.wrap Go.IntKind.i64 (n1 + (1 : Int))) + (1 : Int))) fun s1 =>
            (cond ((decide (((0 : Int) ≤ n2))) && (decide ((n2 < (((List.length (Go.Eng.nset (Go.Eng.nset l1 (Int.toNat n2) (Go.Sa.FirmTable.mk s (Go.Sa.FirmTable.fRev x) (Go.Sa.FirmTable.fBody x))) (Int.toNat n2) (Go.Sa.FirmTable.mk (Go.Sa.FirmTable.fName x1) (Go.IntKind.wrap Go.IntKind.i64 (n1 + (1 : Int))) (Go.Sa.FirmTable.fBody x1)))) : Nat) : Int)))))
            (elemK (Go.Eng.nset (Go.Eng.nset l1 (Int.toNat n2) (Go.Sa.FirmTable.mk s (Go.Sa.FirmTable.fRev x) (Go.Sa.FirmTable.fBody x))) (Int.toNat n2) (Go.Sa.FirmTable.mk (Go.Sa.FirmTable.fName x1) (Go.IntKind.wrap Go.IntKind.i64 (n1 + (1 : Int))) (Go.Sa.FirmTable.fBody x1))) (Int.toNat n2) fun x2 =>
              (cond (Nat.blt (Int.toNat n2) (List.length (Go.Eng.nset (Go.Eng.nset l1 (Int.toNat n2) (Go.Sa.FirmTable.mk s (Go.Sa.FirmTable.fRev x) (Go.Sa.FirmTable.fBody x))) (Int.toNat n2) (Go.Sa.FirmTable.mk (Go.Sa.FirmTable.fName x1) (Go.IntKind.wrap Go.IntKind.i64 (n1 + (1 : Int))) (Go.Sa.FirmTable.fBody x1)))))
              (ag (Go.IntKind.wrap Go.IntKind.i64 ((Go.IntKind.wrap Go.IntKind.i64 ((Go.IntKind.wrap Go.IntKind.i64 (n1 + (1 : Int))) + (1 : Int))) + (1 : Int))) (Go.IntKind.wrap Go.IntKind.i64 (n2 + (1 : Int))) (Go.Eng.nset (Go.Eng.nset (Go.Eng.nset l1 (Int.toNat n2) (Go.Sa.FirmTable.mk s (Go.Sa.FirmTable.fRev x) (Go.Sa.FirmTable.fBody x))) (Int.toNat n2) (Go.Sa.FirmTable.mk (Go.Sa.FirmTable.fName x1) (Go.IntKind.wrap Go.IntKind.i64 (n1 + (1 : Int))) (Go.Sa.FirmTable.fBody x1))) (Int.toNat n2) (Go.Sa.FirmTable.mk (Go.Sa.FirmTable.fName x2) (Go.Sa.FirmTable.fRev x2) s1)))
              none))
            none))
          none))
        none)
      none))
    none))
  (kN n1 l1))
def l_laws_markFirmTableS_w_0 (N : Nat) {R : Type} (b1 : Bool) (kN : Int → (List Go.Sa.FirmTable) → Option R) : Nat → Int → Int → (List Go.Sa.FirmTable) → Option R
  | 0, _, _, _ => none
  | f + 1, n1, n2, l1 => s_laws_markFirmTableS_w_0 N b1 n1 n2 l1 (fun n1 n2 l1 => l_laws_markFirmTableS_w_0 N b1 kN f n1 n2 l1)  kN
def c_laws_markFirmTableS_w_0 (N : Nat) {R : Type} (b1 : Bool) (n1 : Int) (n2 : Int) (l1 : List Go.Sa.FirmTable) (kN : Int → (List Go.Sa.FirmTable) → Option R) : Option R := l_laws_markFirmTableS_w_0 N b1 kN N n1 n2 l1
theorem se_laws_markFirmTableS_w_0 (N : Nat) {R : Type} (b1 : Bool) (n1 : Int) (n2 : Int) (l1 : List Go.Sa.FirmTable) (AG : List (Option AV) → Hp E → Option R) (KL : Ex → List (Option AV) → Hp E → Option R) :
    iterStep (E := E) (O_laws_markFirmTableS_w N) (fun {R} => LI (noIt) 1 36 sl_laws_markFirmTableS_w (R := R)) J_laws_markFirmTableS_w 1 36 0 [0, 1, 5] [1] (body Go.Proofs.Try.f31 0) AG KL [(Option.some (Go.Eng.AV.sc (Go.Eng.SV.slc 0 Option.none b1))), (Option.some (Go.Eng.AV.sc (Go.Eng.SV.int Go.IntKind.i64 n1))), (Option.some (Go.Eng.AV.sc (Go.Eng.SV.int Go.IntKind.i64 n2)))] [(Option.some (Go.Eng.HE.mk Bool.false (Go.Eng.HB.rows (Go.Sa.B.iFirmTable l1))))] =
      s_laws_markFirmTableS_w_0 N b1 n1 n2 l1 (fun n1 n2 l1 => AG [(Option.some (Go.Eng.AV.sc (Go.Eng.SV.slc 0 Option.none b1))), (Option.some (Go.Eng.AV.sc (Go.Eng.SV.int Go.IntKind.i64 n1))), (Option.some (Go.Eng.AV.sc (Go.Eng.SV.int Go.IntKind.i64 n2)))] [(Option.some (Go.Eng.HE.mk Bool.false (Go.Eng.HB.rows (Go.Sa.B.iFirmTable l1))))])  (fun n5 l4 => KL Go.Eng.Ex.normal [(Option.some (Go.Eng.AV.sc (Go.Eng.SV.int Go.IntKind.i64 n5)))] [(Option.some (Go.Eng.HE.mk Bool.false (Go.Eng.HB.rows (Go.Sa.B.iFirmTable l4))))]) := by kernel_rfl
theorem le_laws_markFirmTableS_w_0 (N : Nat) {R : Type} (b1 : Bool) (KL : Ex → List (Option AV) → Hp E → Option R) : ∀ (f : Nat), ∀ (n1 : Int) (n2 : Int) (l1 : List Go.Sa.FirmTable), iterK (E := E) (O_laws_markFirmTableS_w N) (fun {R} => LI (noIt) 1 36 sl_laws_markFirmTableS_w (R := R)) J_laws_markFirmTableS_w 1 36 0 [0, 1, 5] [1] (body Go.Proofs.Try.f31 0) f [(Option.some (Go.Eng.AV.sc (Go.Eng.SV.slc 0 Option.none b1))), (Option.some (Go.Eng.AV.sc (Go.Eng.SV.int Go.IntKind.i64 n1))), (Option.some (Go.Eng.AV.sc (Go.Eng.SV.int Go.IntKind.i64 n2)))] [(Option.some (Go.Eng.HE.mk Bool.false (Go.Eng.HB.rows (Go.Sa.B.iFirmTable l1))))] KL = l_laws_markFirmTableS_w_0 N b1 (fun n5 l4 => KL Go.Eng.Ex.normal [(Option.some (Go.Eng.AV.sc (Go.Eng.SV.int Go.IntKind.i64 n5)))] [(Option.some (Go.Eng.HE.mk Bool.false (Go.Eng.HB.rows (Go.Sa.B.iFirmTable l4))))]) f n1 n2 l1 := by
  intro f
  induction f with
  | zero => intros; rfl
  | succ f ih =>
    intro n1 n2 l1
    rw [iterK_succ, se_laws_markFirmTableS_w_0]
    exact (congrArg (fun z0 => s_laws_markFirmTableS_w_0 N b1 n1 n2 l1 z0 (fun n5 l4 => KL Go.Eng.Ex.normal [(Option.some (Go.Eng.AV.sc (Go.Eng.SV.int Go.IntKind.i64 n5)))] [(Option.some (Go.Eng.HE.mk Bool.false (Go.Eng.HB.rows (Go.Sa.B.iFirmTable l4))))])) (funext fun n1 => funext fun n2 => funext fun l1 => ih n1 n2 l1))
def i_laws_markFirmTableS_w_0 (N : Nat) {R : Type} (vs : List (Option AV)) (H : Hp E) (KL : Ex → List (Option AV) → Hp E → Option R) : Option R :=
  match vs, H with
  | [(Option.some (Go.Eng.AV.sc (Go.Eng.SV.slc 0 Option.none b1))), (Option.some (Go.Eng.AV.sc (Go.Eng.SV.int Go.IntKind.i64 n1))), (Option.some (Go.Eng.AV.sc (Go.Eng.SV.int Go.IntKind.i64 n2)))], [(Option.some (Go.Eng.HE.mk Bool.false (Go.Eng.HB.rows (Go.Sa.B.iFirmTable l1))))] => c_laws_markFirmTableS_w_0 N b1 n1 n2 l1 (fun n6 l5 => KL Go.Eng.Ex.normal [(Option.some (Go.Eng.AV.sc (Go.Eng.SV.int Go.IntKind.i64 n6)))] [(Option.some (Go.Eng.HE.mk Bool.false (Go.Eng.HB.rows (Go.Sa.B.iFirmTable l5))))])
  | _, _ => none
noncomputable def IT_laws_markFirmTableS_w_0 (N : Nat) : Its E := addIt 0 (i_laws_markFirmTableS_w_0 N) (noIt)
theorem IT_laws_markFirmTableS_w_0_ok (N : Nat) : ItOk (IT_laws_markFirmTableS_w_0 N) 1 36 sl_laws_markFirmTableS_w (lsB Go.Proofs.Try.f31 [0]) :=
  addItB_ok (inner := []) ok (O_laws_markFirmTableS_w_ok N) (jn_ok _ _) (noIt_ok) rfl (by kernel_rfl) rfl fun vs H KL r h => by
    unfold i_laws_markFirmTableS_w_0 at h
    split at h
    · exact ⟨_, (le_laws_markFirmTableS_w_0 N _ KL N _ _ _).trans h⟩
    · cases h
def g_laws_markFirmTableS_w (N : Nat) {R : Type} (b : Bool) (n : Int) (l : List Go.Sa.FirmTable) (k : Int → (List Go.Sa.FirmTable) → Option R) : Option R :=
  (c_laws_markFirmTableS_w_0 N b n (0 : Int) l fun n3 l2 =>
  (k n3 l2))
theorem e_laws_markFirmTableS_w (N : Nat) {R : Type} (b : Bool) (n : Int) (l : List Go.Sa.FirmTable) (K : AV → Hp E → Option R) :
    runFnI (E := E) (O_laws_markFirmTableS_w N) (IT_laws_markFirmTableS_w_0 N) sl_laws_markFirmTableS_w J_laws_markFirmTableS_w Go.Proofs.Try.f31 [(Go.Eng.AV.sc (Go.Eng.SV.slc 0 Option.none b)), (Go.Eng.AV.sc (Go.Eng.SV.int Go.IntKind.i64 n))] [(Option.some (Go.Eng.HE.mk Bool.false (Go.Eng.HB.rows (Go.Sa.B.iFirmTable l))))] K =
      g_laws_markFirmTableS_w N b n l (fun n4 l3 => K (Go.Eng.AV.sc (Go.Eng.SV.int Go.IntKind.i64 n4)) [(Option.some (Go.Eng.HE.mk Bool.false (Go.Eng.HB.rows (Go.Sa.B.iFirmTable l3))))]) := by kernel_rfl
def o_laws_markFirmTableS_w (N : Nat) {R : Type} (args : List AV) (H : Hp E) (K : AV → Hp E → Option R) : Option R :=
  match args, H with
  | [(Go.Eng.AV.sc (Go.Eng.SV.slc 0 Option.none b)), (Go.Eng.AV.sc (Go.Eng.SV.int Go.IntKind.i64 n))], [(Option.some (Go.Eng.HE.mk Bool.false (Go.Eng.HB.rows (Go.Sa.B.iFirmTable l))))] => g_laws_markFirmTableS_w N b n l (fun n4 l3 => K (Go.Eng.AV.sc (Go.Eng.SV.int Go.IntKind.i64 n4)) [(Option.some (Go.Eng.HE.mk Bool.false (Go.Eng.HB.rows (Go.Sa.B.iFirmTable l3))))])
  | _, _ => none
theorem o_laws_markFirmTableS_w_ok (N : Nat) : FnOk E 31 (o_laws_markFirmTableS_w N) := by
  intro R args H K r h
  unfold o_laws_markFirmTableS_w at h
  dsimp only at h
  split at h
  · exact fnB_ok (ids := [0]) (top := [0]) ok (O_laws_markFirmTableS_w_ok N) (jn_ok _ _) Go.Proofs.Try.func31 (by kernel_rfl) (IT := IT_laws_markFirmTableS_w_0 N) (sl := sl_laws_markFirmTableS_w) (J := J_laws_markFirmTableS_w) (K := K) (H := [(Option.some (Go.Eng.HE.mk Bool.false (Go.Eng.HB.rows (Go.Sa.B.iFirmTable _))))]) (IT_laws_markFirmTableS_w_0_ok N) (by kernel_rfl) rfl ((e_laws_markFirmTableS_w N _ _ _ K).trans h)
  · cases h
/-! ### loop.example/g00038/laws.eqDeviceS -/
abbrev sl_laws_eqDeviceS_rr : SlotT := [(0, ([0, 1, 5], [4]))]
abbrev J_laws_eqDeviceS_rr : JT := jn [] []
noncomputable def O_laws_eqDeviceS_rr (N : Nat) : Orc E := addFn 174 (o_laws_eqDevice N) (noFn)
theorem O_laws_eqDeviceS_rr_ok (N : Nat) : OrcOk (O_laws_eqDeviceS_rr N) := addFn_ok (o_laws_eqDevice_ok N) (noFn_ok)
def s_laws_eqDeviceS_rr_0 (N : Nat) {R : Type} (b2 : Bool) (b3 : Bool) (l2 : List Go.Sa.Device) (l3 : List Go.Sa.Device) (n : Int) (ag : Int → Option R)  (kR : Option R) (kN : Option R) : Option R :=
  (cond (decide ((n < (((List.length l2) : Nat) : Int))))
  (cond ((decide (((0 : Int) ≤ n))) && (decide ((n < (((List.length l2) : Nat) : Int)))))
    (elemK l2 (Int.toNat n) fun x =>
      (cond ((decide (((0 : Int) ≤ n))) && (decide ((n < (((List.length l3) : Nat) : Int)))))
      (elemK l3 (Int.toNat n) fun x1 =>
        (g_laws_eqDevice N (Go.Sa.Device.fKind x) (Go.Sa.Device.fPort x) (Go.Sa.Device.fLine x) (Go.Sa.Device.fKind x1) (Go.Sa.Device.fPort x1) (Go.Sa.Device.fLine x1) fun b4 =>
        (cond (!b4)
        kR
        (ag (Go.IntKind.wrap Go.IntKind.i64 (n + (1 : Int)))))))
      none))
    none)
  kN)
def l_laws_eqDeviceS_rr_0 (N : Nat) {R : Type} (b2 : Bool) (b3 : Bool) (l2 : List Go.Sa.Device) (l3 : List Go.Sa.Device) (kR : Option R) (kN : Option R) : Nat → Int → Option R
  | 0, _ => none
  | f + 1, n => s_laws_eqDeviceS_rr_0 N b2 b3 l2 l3 n (fun n => l_laws_eqDeviceS_rr_0 N b2 b3 l2 l3 kR kN f n)  kR kN
def c_laws_eqDeviceS_rr_0 (N : Nat) {R : Type} (b2 : Bool) (b3 : Bool) (l2 : List Go.Sa.Device) (l3 : List Go.Sa.Device) (n : Int) (kR : Option R) (kN : Option R) : Option R := l_laws_eqDeviceS_rr_0 N b2 b3 l2 l3 kR kN N n
theorem se_laws_eqDeviceS_rr_0 (N : Nat) {R : Type} (b2 : Bool) (b3 : Bool) (l2 : List Go.Sa.Device) (l3 : List Go.Sa.Device) (n : Int) (AG : List (Option AV) → Hp E → Option R) (KL : Ex → List (Option AV) → Hp E → Option R) :
    iterStep (E := E) (O_laws_eqDeviceS_rr N) (fun {R} => LI (noIt) 2 27 sl_laws_eqDeviceS_rr (R := R)) J_laws_eqDeviceS_rr 2 27 0 [0, 1, 5] [4] (body Go.Proofs.Try.f155 0) AG KL [(Option.some (Go.Eng.AV.sc (Go.Eng.SV.slc 0 Option.none b2))), (Option.some (Go.Eng.AV.sc (Go.Eng.SV.slc 1 Option.none b3))), (Option.some (Go.Eng.AV.sc (Go.Eng.SV.int Go.IntKind.i64 n)))] [(Option.some (Go.Eng.HE.mk Bool.true (Go.Eng.HB.rows (Go.Sa.B.iDevice l2)))), (Option.some (Go.Eng.HE.mk Bool.true (Go.Eng.HB.rows (Go.Sa.B.iDevice l3))))] =
      s_laws_eqDeviceS_rr_0 N b2 b3 l2 l3 n (fun n => AG [(Option.some (Go.Eng.AV.sc (Go.Eng.SV.slc 0 Option.none b2))), (Option.some (Go.Eng.AV.sc (Go.Eng.SV.slc 1 Option.none b3))), (Option.some (Go.Eng.AV.sc (Go.Eng.SV.int Go.IntKind.i64 n)))] [(Option.some (Go.Eng.HE.mk Bool.true (Go.Eng.HB.rows (Go.Sa.B.iDevice l2)))), (Option.some (Go.Eng.HE.mk Bool.true (Go.Eng.HB.rows (Go.Sa.B.iDevice l3))))])  (KL Go.Eng.Ex.ret [(Option.some (Go.Eng.AV.sc (Go.Eng.SV.bool Bool.false)))] [(Option.some (Go.Eng.HE.mk Bool.true (Go.Eng.HB.rows (Go.Sa.B.iDevice l2)))), (Option.some (Go.Eng.HE.mk Bool.true (Go.Eng.HB.rows (Go.Sa.B.iDevice l3))))]) (KL Go.Eng.Ex.normal [Option.none] [(Option.some (Go.Eng.HE.mk Bool.true (Go.Eng.HB.rows (Go.Sa.B.iDevice l2)))), (Option.some (Go.Eng.HE.mk Bool.true (Go.Eng.HB.rows (Go.Sa.B.iDevice l3))))]) := by kernel_rfl
theorem le_laws_eqDeviceS_rr_0 (N : Nat) {R : Type} (b2 : Bool) (b3 : Bool) (l2 : List Go.Sa.Device) (l3 : List Go.Sa.Device) (KL : Ex → List (Option AV) → Hp E → Option R) : ∀ (f : Nat), ∀ (n : Int), iterK (E := E) (O_laws_eqDeviceS_rr N) (fun {R} => LI (noIt) 2 27 sl_laws_eqDeviceS_rr (R := R)) J_laws_eqDeviceS_rr 2 27 0 [0, 1, 5] [4] (body Go.Proofs.Try.f155 0) f [(Option.some (Go.Eng.AV.sc (Go.Eng.SV.slc 0 Option.none b2))), (Option.some (Go.Eng.AV.sc (Go.Eng.SV.slc 1 Option.none b3))), (Option.some (Go.Eng.AV.sc (Go.Eng.SV.int Go.IntKind.i64 n)))] [(Option.some (Go.Eng.HE.mk Bool.true (Go.Eng.HB.rows (Go.Sa.B.iDevice l2)))), (Option.some (Go.Eng.HE.mk Bool.true (Go.Eng.HB.rows (Go.Sa.B.iDevice l3))))] KL = l_laws_eqDeviceS_rr_0 N b2 b3 l2 l3 (KL Go.Eng.Ex.ret [(Option.some (Go.Eng.AV.sc (Go.Eng.SV.bool Bool.false)))] [(Option.some (Go.Eng.HE.mk Bool.true (Go.Eng.HB.rows (Go.Sa.B.iDevice l2)))), (Option.some (Go.Eng.HE.mk Bool.true (Go.Eng.HB.rows (Go.Sa.B.iDevice l3))))]) (KL Go.Eng.Ex.normal [Option.none] [(Option.some (Go.Eng.HE.mk Bool.true (Go.Eng.HB.rows (Go.Sa.B.iDevice l2)))), (Option.some (Go.Eng.HE.mk Bool.true (Go.Eng.HB.rows (Go.Sa.B.iDevice l3))))]) f n := by
  intro f
  induction f with
  | zero => intros; rfl
  | succ f ih =>
    intro n
    rw [iterK_succ, se_laws_eqDeviceS_rr_0]
    exact (congrArg (fun z0 => s_laws_eqDeviceS_rr_0 N b2 b3 l2 l3 n z0 (KL Go.Eng.Ex.ret [(Option.some (Go.Eng.AV.sc (Go.Eng.SV.bool Bool.false)))] [(Option.some (Go.Eng.HE.mk Bool.true (Go.Eng.HB.rows (Go.Sa.B.iDevice l2)))), (Option.some (Go.Eng.HE.mk Bool.true (Go.Eng.HB.rows (Go.Sa.B.iDevice l3))))]) (KL Go.Eng.Ex.normal [Option.none] [(Option.some (Go.Eng.HE.mk Bool.true (Go.Eng.HB.rows (Go.Sa.B.iDevice l2)))), (Option.some (Go.Eng.HE.mk Bool.true (Go.Eng.HB.rows (Go.Sa.B.iDevice l3))))])) (funext fun n => ih n))
def i_laws_eqDeviceS_rr_0 (N : Nat) {R : Type} (vs : List (Option AV)) (H : Hp E) (KL : Ex → List (Option AV) → Hp E → Option R) : Option R :=
  match vs, H with
  | [(Option.some (Go.Eng.AV.sc (Go.Eng.SV.slc 0 Option.none b2))), (Option.some (Go.Eng.AV.sc (Go.Eng.SV.slc 1 Option.none b3))), (Option.some (Go.Eng.AV.sc (Go.Eng.SV.int Go.IntKind.i64 n)))], [(Option.some (Go.Eng.HE.mk Bool.true (Go.Eng.HB.rows (Go.Sa.B.iDevice l2)))), (Option.some (Go.Eng.HE.mk Bool.true (Go.Eng.HB.rows (Go.Sa.B.iDevice l3))))] => c_laws_eqDeviceS_rr_0 N b2 b3 l2 l3 n (KL Go.Eng.Ex.ret [(Option.some (Go.Eng.AV.sc (Go.Eng.SV.bool Bool.false)))] [(Option.some (Go.Eng.HE.mk Bool.true (Go.Eng.HB.rows (Go.Sa.B.iDevice l2)))), (Option.some (Go.Eng.HE.mk Bool.true (Go.Eng.HB.rows (Go.Sa.B.iDevice l3))))]) (KL Go.Eng.Ex.normal [Option.none] [(Option.some (Go.Eng.HE.mk Bool.true (Go.Eng.HB.rows (Go.Sa.B.iDevice l2)))), (Option.some (Go.Eng.HE.mk Bool.true (Go.Eng.HB.rows (Go.Sa.B.iDevice l3))))])
  | _, _ => none
noncomputable def IT_laws_eqDeviceS_rr_0 (N : Nat) : Its E := addIt 0 (i_laws_eqDeviceS_rr_0 N) (noIt)
theorem IT_laws_eqDeviceS_rr_0_ok (N : Nat) : ItOk (IT_laws_eqDeviceS_rr_0 N) 2 27 sl_laws_eqDeviceS_rr (lsB Go.Proofs.Try.f155 [0]) :=
  addItB_ok (inner := []) ok (O_laws_eqDeviceS_rr_ok N) (jn_ok _ _) (noIt_ok) rfl (by kernel_rfl) rfl fun vs H KL r h => by
    unfold i_laws_eqDeviceS_rr_0 at h
    split at h
    · exact ⟨_, (le_laws_eqDeviceS_rr_0 N _ _ _ _ KL N _).trans h⟩
    · cases h
def g_laws_eqDeviceS_rr (N : Nat) {R : Type} (b : Bool) (b1 : Bool) (l : List Go.Sa.Device) (l1 : List Go.Sa.Device) (k : Bool → Option R) : Option R :=
  (cond ((((List.length l) : Nat) : Int) != (((List.length l1) : Nat) : Int))
  (k Bool.false)
  (c_laws_eqDeviceS_rr_0 N b b1 l l1 (0 : Int) (
    (k Bool.false)) (
    (k Bool.true))))
theorem e_laws_eqDeviceS_rr (N : Nat) {R : Type} (b : Bool) (b1 : Bool) (l : List Go.Sa.Device) (l1 : List Go.Sa.Device) (K : AV → Hp E → Option R) :
    runFnI (E := E) (O_laws_eqDeviceS_rr N) (IT_laws_eqDeviceS_rr_0 N) sl_laws_eqDeviceS_rr J_laws_eqDeviceS_rr Go.Proofs.Try.f155 [(Go.Eng.AV.sc (Go.Eng.SV.slc 0 Option.none b)), (Go.Eng.AV.sc (Go.Eng.SV.slc 1 Option.none b1))] [(Option.some (Go.Eng.HE.mk Bool.true (Go.Eng.HB.rows (Go.Sa.B.iDevice l)))), (Option.some (Go.Eng.HE.mk Bool.true (Go.Eng.HB.rows (Go.Sa.B.iDevice l1))))] K =
      g_laws_eqDeviceS_rr N b b1 l l1 (fun b5 => K (Go.Eng.AV.sc (Go.Eng.SV.bool b5)) [(Option.some (Go.Eng.HE.mk Bool.true (Go.Eng.HB.rows (Go.Sa.B.iDevice l)))), (Option.some (Go.Eng.HE.mk Bool.true (Go.Eng.HB.rows (Go.Sa.B.iDevice l1))))]) := by kernel_rfl
def o_laws_eqDeviceS_rr (N : Nat) {R : Type} (args : List AV) (H : Hp E) (K : AV → Hp E → Option R) : Option R :=
  match args, H with
  | [(Go.Eng.AV.sc (Go.Eng.SV.slc 0 Option.none b)), (Go.Eng.AV.sc (Go.Eng.SV.slc 1 Option.none b1))], [(Option.some (Go.Eng.HE.mk Bool.true (Go.Eng.HB.rows (Go.Sa.B.iDevice l)))), (Option.some (Go.Eng.HE.mk Bool.true (Go.Eng.HB.rows (Go.Sa.B.iDevice l1))))] => g_laws_eqDeviceS_rr N b b1 l l1 (fun b5 => K (Go.Eng.AV.sc (Go.Eng.SV.bool b5)) [(Option.some (Go.Eng.HE.mk Bool.true (Go.Eng.HB.rows (Go.Sa.B.iDevice l)))), (Option.some (Go.Eng.HE.mk Bool.true (Go.Eng.HB.rows (Go.Sa.B.iDevice l1))))])
  | _, _ => none
theorem o_laws_eqDeviceS_rr_ok (N : Nat) : FnOk E 155 (o_laws_eqDeviceS_rr N) := by
  intro R args H K r h
  unfold o_laws_eqDeviceS_rr at h
  dsimp only at h
  split at h
  · exact fnB_ok (ids := [0]) (top := [0]) ok (O_laws_eqDeviceS_rr_ok N) (jn_ok _ _) Go.Proofs.Try.func155 (by kernel_rfl) (IT := IT_laws_eqDeviceS_rr_0 N) (sl := sl_laws_eqDeviceS_rr) (J := J_laws_eqDeviceS_rr) (K := K) (H := [(Option.some (Go.Eng.HE.mk Bool.true (Go.Eng.HB.rows (Go.Sa.B.iDevice _)))), (Option.some (Go.Eng.HE.mk Bool.true (Go.Eng.HB.rows (Go.Sa.B.iDevice _))))]) (IT_laws_eqDeviceS_rr_0_ok N) (by kernel_rfl) rfl ((e_laws_eqDeviceS_rr N _ _ _ _ K).trans h)
  · cases h
/-! ### loop.example/g00038/laws.eqBoard -/
abbrev sl_laws_eqBoard_rr : SlotT := []
abbrev J_laws_eqBoard_rr : JT := jn [] []
noncomputable def O_laws_eqBoard_rr (N : Nat) : Orc E := addFn 155 (o_laws_eqDeviceS_rr N) (noFn)
theorem O_laws_eqBoard_rr_ok (N : Nat) : OrcOk (O_laws_eqBoard_rr N) := addFn_ok (o_laws_eqDeviceS_rr_ok N) (noFn_ok)
def g_laws_eqBoard_rr (N : Nat) {R : Type} (n : Int) (n1 : Int) (b : Bool) (n2 : Int) (n3 : Int) (b1 : Bool) (l : List Go.Sa.Device) (l1 : List Go.Sa.Device) (k : Bool → Option R) : Option R :=
  (cond (n != n2)
  (k Bool.false)
  (cond (n1 != n3)
    (k Bool.false)
    (g_laws_eqDeviceS_rr N b b1 l l1 fun b2 =>
      (cond (!b2)
      (k Bool.false)
      (k Bool.true)))))
theorem e_laws_eqBoard_rr (N : Nat) {R : Type} (n : Int) (n1 : Int) (b : Bool) (n2 : Int) (n3 : Int) (b1 : Bool) (l : List Go.Sa.Device) (l1 : List Go.Sa.Device) (K : AV → Hp E → Option R) :
    runFnI (E := E) (O_laws_eqBoard_rr N) (noIt) sl_laws_eqBoard_rr J_laws_eqBoard_rr Go.Proofs.Try.f87 [(Go.Eng.AV.agg [(Go.Eng.SV.int Go.IntKind.i64 n), (Go.Eng.SV.int Go.IntKind.i64 n1), (Go.Eng.SV.slc 0 Option.none b)]), (Go.Eng.AV.agg [(Go.Eng.SV.int Go.IntKind.i64 n2), (Go.Eng.SV.int Go.IntKind.i64 n3), (Go.Eng.SV.slc 1 Option.none b1)])] [(Option.some (Go.Eng.HE.mk Bool.true (Go.Eng.HB.rows (Go.Sa.B.iDevice l)))), (Option.some (Go.Eng.HE.mk Bool.true (Go.Eng.HB.rows (Go.Sa.B.iDevice l1))))] K =
      g_laws_eqBoard_rr N n n1 b n2 n3 b1 l l1 (fun b3 => K (Go.Eng.AV.sc (Go.Eng.SV.bool b3)) [(Option.some (Go.Eng.HE.mk Bool.true (Go.Eng.HB.rows (Go.Sa.B.iDevice l)))), (Option.some (Go.Eng.HE.mk Bool.true (Go.Eng.HB.rows (Go.Sa.B.iDevice l1))))]) := by kernel_rfl
def o_laws_eqBoard_rr (N : Nat) {R : Type} (args : List AV) (H : Hp E) (K : AV → Hp E → Option R) : Option R :=
  match args, H with
  | [(Go.Eng.AV.agg [(Go.Eng.SV.int Go.IntKind.i64 n), (Go.Eng.SV.int Go.IntKind.i64 n1), (Go.Eng.SV.slc 0 Option.none b)]), (Go.Eng.AV.agg [(Go.Eng.SV.int Go.IntKind.i64 n2), (Go.Eng.SV.int Go.IntKind.i64 n3), (Go.Eng.SV.slc 1 Option.none b1)])], [(Option.some (Go.Eng.HE.mk Bool.true (Go.Eng.HB.rows (Go.Sa.B.iDevice l)))), (Option.some (Go.Eng.HE.mk Bool.true (Go.Eng.HB.rows (Go.Sa.B.iDevice l1))))] => g_laws_eqBoard_rr N n n1 b n2 n3 b1 l l1 (fun b3 => K (Go.Eng.AV.sc (Go.Eng.SV.bool b3)) [(Option.some (Go.Eng.HE.mk Bool.true (Go.Eng.HB.rows (Go.Sa.B.iDevice l)))), (Option.some (Go.Eng.HE.mk Bool.true (Go.Eng.HB.rows (Go.Sa.B.iDevice l1))))])
  | _, _ => none
theorem o_laws_eqBoard_rr_ok (N : Nat) : FnOk E 87 (o_laws_eqBoard_rr N) := by
  intro R args H K r h
  unfold o_laws_eqBoard_rr at h
  dsimp only at h
  split at h
  · exact fnB_ok (ids := []) (top := []) ok (O_laws_eqBoard_rr_ok N) (jn_ok _ _) Go.Proofs.Try.func87 (by kernel_rfl) (IT := noIt) (sl := sl_laws_eqBoard_rr) (J := J_laws_eqBoard_rr) (K := K) (H := [(Option.some (Go.Eng.HE.mk Bool.true (Go.Eng.HB.rows (Go.Sa.B.iDevice _)))), (Option.some (Go.Eng.HE.mk Bool.true (Go.Eng.HB.rows (Go.Sa.B.iDevice _))))]) (noIt_ok) (by kernel_rfl) rfl ((e_laws_eqBoard_rr N _ _ _ _ _ _ _ _ K).trans h)
  · cases h
/-! ### loop.example/g00038/laws.eqBoardRead -/
abbrev sl_laws_eqBoardRead_rr : SlotT := []
abbrev J_laws_eqBoardRead_rr : JT := jn [] []
noncomputable def O_laws_eqBoardRead_rr (N : Nat) : Orc E := addFn 87 (o_laws_eqBoard_rr N) (noFn)
theorem O_laws_eqBoardRead_rr_ok (N : Nat) : OrcOk (O_laws_eqBoardRead_rr N) := addFn_ok (o_laws_eqBoard_rr_ok N) (noFn_ok)
def g_laws_eqBoardRead_rr (N : Nat) {R : Type} (b : Bool) (n : Int) (n1 : Int) (b1 : Bool) (b2 : Bool) (n2 : Int) (n3 : Int) (b3 : Bool) (l : List Go.Sa.Device) (l1 : List Go.Sa.Device) (k : Bool → Option R) : Option R :=
  (cond (!(b == b2))
  (k Bool.false)
  (g_laws_eqBoard_rr N n n1 b1 n2 n3 b3 l l1 fun b4 =>
    (cond (!b4)
    (k Bool.false)
    (k Bool.true))))
theorem e_laws_eqBoardRead_rr (N : Nat) {R : Type} (b : Bool) (n : Int) (n1 : Int) (b1 : Bool) (b2 : Bool) (n2 : Int) (n3 : Int) (b3 : Bool) (l : List Go.Sa.Device) (l1 : List Go.Sa.Device) (K : AV → Hp E → Option R) :
    runFnI (E := E) (O_laws_eqBoardRead_rr N) (noIt) sl_laws_eqBoardRead_rr J_laws_eqBoardRead_rr Go.Proofs.Try.f29 [(Go.Eng.AV.agg [(Go.Eng.SV.bool b), (Go.Eng.SV.int Go.IntKind.i64 n), (Go.Eng.SV.int Go.IntKind.i64 n1), (Go.Eng.SV.slc 0 Option.none b1)]), (Go.Eng.AV.agg [(Go.Eng.SV.bool b2), (Go.Eng.SV.int Go.IntKind.i64 n2), (Go.Eng.SV.int Go.IntKind.i64 n3), (Go.Eng.SV.slc 1 Option.none b3)])] [(Option.some (Go.Eng.HE.mk Bool.true (Go.Eng.HB.rows (Go.Sa.B.iDevice l)))), (Option.some (Go.Eng.HE.mk Bool.true (Go.Eng.HB.rows (Go.Sa.B.iDevice l1))))] K =
      g_laws_eqBoardRead_rr N b n n1 b1 b2 n2 n3 b3 l l1 (fun b5 => K (Go.Eng.AV.sc (Go.Eng.SV.bool b5)) [(Option.some (Go.Eng.HE.mk Bool.true (Go.Eng.HB.rows (Go.Sa.B.iDevice l)))), (Option.some (Go.Eng.HE.mk Bool.true (Go.Eng.HB.rows (Go.Sa.B.iDevice l1))))]) := by kernel_rfl
def o_laws_eqBoardRead_rr (N : Nat) {R : Type} (args : List AV) (H : Hp E) (K : AV → Hp E → Option R) : Option R :=
  match args, H with
  | [(Go.Eng.AV.agg [(Go.Eng.SV.bool b), (Go.Eng.SV.int Go.IntKind.i64 n), (Go.Eng.SV.int Go.IntKind.i64 n1), (Go.Eng.SV.slc 0 Option.none b1)]), (Go.Eng.AV.agg [(Go.Eng.SV.bool b2), (Go.Eng.SV.int Go.IntKind.i64 n2), (Go.Eng.SV.int Go.IntKind.i64 n3), (Go.Eng.SV.slc 1 Option.none b3)])], [(Option.some (Go.Eng.HE.mk Bool.true (Go.Eng.HB.rows (Go.Sa.B.iDevice l)))), (Option.some (Go.Eng.HE.mk Bool.true (Go.Eng.HB.rows (Go.Sa.B.iDevice l1))))] => g_laws_eqBoardRead_rr N b n n1 b1 b2 n2 n3 b3 l l1 (fun b5 => K (Go.Eng.AV.sc (Go.Eng.SV.bool b5)) [(Option.some (Go.Eng.HE.mk Bool.true (Go.Eng.HB.rows (Go.Sa.B.iDevice l)))), (Option.some (Go.Eng.HE.mk Bool.true (Go.Eng.HB.rows (Go.Sa.B.iDevice l1))))])
  | _, _ => none
theorem o_laws_eqBoardRead_rr_ok (N : Nat) : FnOk E 29 (o_laws_eqBoardRead_rr N) := by
  intro R args H K r h
  unfold o_laws_eqBoardRead_rr at h
  dsimp only at h
  split at h
  · exact fnB_ok (ids := []) (top := []) ok (O_laws_eqBoardRead_rr_ok N) (jn_ok _ _) Go.Proofs.Try.func29 (by kernel_rfl) (IT := noIt) (sl := sl_laws_eqBoardRead_rr) (J := J_laws_eqBoardRead_rr) (K := K) (H := [(Option.some (Go.Eng.HE.mk Bool.true (Go.Eng.HB.rows (Go.Sa.B.iDevice _)))), (Option.some (Go.Eng.HE.mk Bool.true (Go.Eng.HB.rows (Go.Sa.B.iDevice _))))]) (noIt_ok) (by kernel_rfl) rfl ((e_laws_eqBoardRead_rr N _ _ _ _ _ _ _ _ _ _ K).trans h)
  · cases h
/-! ### loop.example/g00038/laws.markDeviceS -/
abbrev sl_laws_markDeviceS_w : SlotT := [(0, ([0, 1, 5], [1]))]
abbrev J_laws_markDeviceS_w : JT := jn [] []
noncomputable def O_laws_markDeviceS_w (N : Nat) : Orc E := noFn
theorem O_laws_markDeviceS_w_ok (N : Nat) : OrcOk (O_laws_markDeviceS_w N) := noFn_ok
def s_laws_markDeviceS_w_0 (N : Nat) {R : Type} (b1 : Bool) (n1 : Int) (n2 : Int) (l1 : List Go.Sa.Device) (ag : Int → Int → (List Go.Sa.Device) → Option R)  (kN : Int → (List Go.Sa.Device) → Option R) : Option R :=
  (cond (decide ((n2 < (((List.length l1) : Nat) : Int))))
  (cond ((decide (((0 : Int) ≤ n2))) && (decide ((n2 < (((List.length l1) : Nat) : Int)))))
    (elemK l1 (Int.toNat n2) fun x =>
      (cond (Nat.blt (Int.toNat n2) (List.length l1))
      (cond ((decide (((0 : Int) ≤ n2))) && (decide ((n2 < (((List.length (Go.Eng.nset l1 (Int.toNat n2) (Go.Sa.Device.mk n1 (Go.Sa.Device.fPort x) (Go.Sa.Device.fLine x)))) : Nat) : Int)))))
        (elemK (Go.Eng.nset l1 (Int.toNat n2) (Go.Sa.Device.mk n1 (Go.Sa.Device.fPort x) (Go.Sa.Device.fLine x))) (Int.toNat n2) fun x1 =>
          (cond (Nat.blt (Int.toNat n2) (List.length (Go.Eng.nset l1 (Int.toNat n2) (Go.Sa.Device.mk n1 (Go.Sa.Device.fPort x) (Go.Sa.Device.fLine x)))))
          (cond ((decide (((0 : Int) ≤ n2))) && (decide ((n2 < (((List.length (Go.Eng.nset (Go.Eng.nset l1 (Int.toNat n2) (Go.Sa.Device.mk n1 (Go.Sa.Device.fPort x) (Go.Sa.Device.fLine x))) (Int.toNat n2) (Go.Sa.Device.mk (Go.Sa.Device.fKind x1) (Go.IntKind.wrap Go.IntKind.i64 (n1 + (1 : Int))) (Go.Sa.Device.fLine x1)))) : Nat) : Int)))))
            (elemK (Go.Eng.nset (Go.Eng.nset l1 (Int.toNat n2) (Go.Sa.Device.mk n1 (Go.Sa.Device.fPort x) (Go.Sa.Device.fLine x))) (Int.toNat n2) (Go.Sa.Device.mk (Go.Sa.Device.fKind x1) (Go.IntKind.wrap Go.IntKind.i64 (n1 + (1 : Int))) (Go.Sa.Device.fLine x1))) (Int.toNat n2) fun x2 =>
              (cond (Nat.blt (Int.toNat n2) (List.length (Go.Eng.nset (Go.Eng.nset l1 (Int.toNat n2) (Go.Sa.Device.mk n1 (Go.Sa.Device.fPort x) (Go.Sa.Device.fLine x))) (Int.toNat n2) (Go.Sa.Device.mk (Go.Sa.Device.fKind x1) (Go.IntKind.wrap Go.IntKind.i64 (n1 + (1 : Int))) (Go.Sa.Device.fLine x1)))))
              (ag (Go.IntKind.wrap Go.IntKind.i64 ((Go.IntKind.wrap Go.IntKind.i64 ((Go.IntKind.wrap Go.IntKind.i64 (n1 + (1 : Int))) + (1 : Int))) + (1 : Int))) (Go.IntKind.wrap Go.IntKind.i64 (n2 + (1 : Int))) (Go.Eng.nset (Go.Eng.nset (Go.Eng.nset l1 (Int.toNat n2) (Go.Sa.Device.mk n1 (Go.Sa.Device.fPort x) (Go.Sa.Device.fLine x))) (Int.toNat n2) (Go.Sa.Device.mk (Go.Sa.Device.fKind x1) (Go.IntKind.wrap Go.IntKind.i64 (n1 + (1 : Int))) (Go.Sa.Device.fLine x1))) (Int.toNat n2) (Go.Sa.Device.mk (Go.Sa.Device.fKind x2) (Go.Sa.Device.fPort x2) (Go.IntKind.wrap Go.IntKind.i64 ((Go.IntKind.wrap Go.IntKind.i64 (n1 + (1 : Int))) + (1 : Int))))))
              none))
            none)
          none))
        none)
      none))
    none)
  (kN n1 l1))
def l_laws_markDeviceS_w_0 (N : Nat) {R : Type} (b1 : Bool) (kN : Int → (List Go.Sa.Device) → Option R) : Nat → Int → Int → (List Go.Sa.Device) → Option R
  | 0, _, _, _ => none
  | f + 1, n1, n2, l1 => s_laws_markDeviceS_w_0 N b1 n1 n2 l1 (fun n1 n2 l1 => l_laws_markDeviceS_w_0 N b1 kN f n1 n2 l1)  kN
def c_laws_markDeviceS_w_0 (N : Nat) {R : Type} (b1 : Bool) (n1 : Int) (n2 : Int) (l1 : List Go.Sa.Device) (kN : Int → (List Go.Sa.Device) → Option R) : Option R := l_laws_markDeviceS_w_0 N b1 kN N n1 n2 l1
theorem se_laws_markDeviceS_w_0 (N : Nat) {R : Type} (b1 : Bool) (n1 : Int) (n2 : Int) (l1 : List Go.Sa.Device) (AG : List (Option AV) → Hp E → Option R) (KL : Ex → List (Option AV) → Hp E → Option R) :
    iterStep (E := E) (O_laws_markDeviceS_w N) (fun {R} => LI (noIt) 1 34 sl_laws_markDeviceS_w (R := R)) J_laws_markDeviceS_w 1 34 0 [0, 1, 5] [1] (body Go.Proofs.Try.f156 0) AG KL [(Option.some (Go.Eng.AV.sc (Go.Eng.SV.slc 0 Option.none b1))), (Option.some (Go.Eng.AV.sc (Go.Eng.SV.int Go.IntKind.i64 n1))), (Option.some (Go.Eng.AV.sc (Go.Eng.SV.int Go.IntKind.i64 n2)))] [(Option.some (Go.Eng.HE.mk Bool.false (Go.Eng.HB.rows (Go.Sa.B.iDevice l1))))] =
      s_laws_markDeviceS_w_0 N b1 n1 n2 l1 (fun n1 n2 l1 => AG [(Option.some (Go.Eng.AV.sc (Go.Eng.SV.slc 0 Option.none b1))), (Option.some (Go.Eng.AV.sc (Go.Eng.SV.int Go.IntKind.i64 n1))), (Option.some (Go.Eng.AV.sc (Go.Eng.SV.int Go.IntKind.i64 n2)))] [(Option.some (Go.Eng.HE.mk Bool.false (Go.Eng.HB.rows (Go.Sa.B.iDevice l1))))])  (fun n5 l4 => KL Go.Eng.Ex.normal [(Option.some (Go.Eng.AV.sc (Go.Eng.SV.int Go.IntKind.i64 n5)))] [(Option.some (Go.Eng.HE.mk Bool.false (Go.Eng.HB.rows (Go.Sa.B.iDevice l4))))]) := by kernel_rfl
theorem le_laws_markDeviceS_w_0 (N : Nat) {R : Type} (b1 : Bool) (KL : Ex → List (Option AV) → Hp E → Option R) : ∀ (f : Nat), ∀ (n1 : Int) (n2 : Int) (l1 : List Go.Sa.Device), iterK (E := E) (O_laws_markDeviceS_w N) (fun {R} => LI (noIt) 1 34 sl_laws_markDeviceS_w (R := R)) J_laws_markDeviceS_w 1 34 0 [0, 1, 5] [1] (body Go.Proofs.Try.f156 0) f [(Option.some (Go.Eng.AV.sc (Go.Eng.SV.slc 0 Option.none b1))), (Option.some (Go.Eng.AV.sc (Go.Eng.SV.int Go.IntKind.i64 n1))), (Option.some (Go.Eng.AV.sc (Go.Eng.SV.int Go.IntKind.i64 n2)))] [(Option.some (Go.Eng.HE.mk Bool.false (Go.Eng.HB.rows (Go.Sa.B.iDevice l1))))] KL = l_laws_markDeviceS_w_0 N b1 (fun n5 l4 => KL Go.Eng.Ex.normal [(Option.some (Go.Eng.AV.sc (Go.Eng.SV.int Go.IntKind.i64 n5)))] [(Option.some (Go.Eng.HE.mk Bool.false (Go.Eng.HB.rows (Go.Sa.B.iDevice l4))))]) f n1 n2 l1 := by
  intro f
  induction f with
  | zero => intros; rfl
  | succ f ih =>
    intro n1 n2 l1
    rw [iterK_succ, se_laws_markDeviceS_w_0]
    exact (congrArg (fun z0 => s_laws_markDeviceS_w_0 N b1 n1 n2 l1 z0 (fun n5 l4 => KL Go.Eng.Ex.normal [(Option.some (Go.Eng.AV.sc (Go.Eng.SV.int Go.IntKind.i64 n5)))] [(Option.some (Go.Eng.HE.mk Bool.false (Go.Eng.HB.rows (Go.Sa.B.iDevice l4))))])) (funext fun n1 => funext fun n2 => funext fun l1 => ih n1 n2 l1))
def i_laws_markDeviceS_w_0 (N : Nat) {R : Type} (vs : List (Option AV)) (H : Hp E) (KL : Ex → List (Option AV) → Hp E → Option R) : Option R :=
  match vs, H with
  | [(Option.some (Go.Eng.AV.sc (Go.Eng.SV.slc 0 Option.none b1))), (Option.some (Go.Eng.AV.sc (Go.Eng.SV.int Go.IntKind.i64 n1))), (Option.some (Go.Eng.AV.sc (Go.Eng.SV.int Go.IntKind.i64 n2)))], [(Option.some (Go.Eng.HE.mk Bool.false (Go.Eng.HB.rows (Go.Sa.B.iDevice l1))))] => c_laws_markDeviceS_w_0 N b1 n1 n2 l1 (fun n6 l5 => KL Go.Eng.Ex.normal [(Option.some (Go.Eng.AV.sc (Go.Eng.SV.int Go.IntKind.i64 n6)))] [(Option.some (Go.Eng.HE.mk Bool.false (Go.Eng.HB.rows (Go.Sa.B.iDevice l5))))])
  | _, _ => none
noncomputable def IT_laws_markDeviceS_w_0 (N : Nat) : Its E := addIt 0 (i_laws_markDeviceS_w_0 N) (noIt)
theorem IT_laws_markDeviceS_w_0_ok (N : Nat) : ItOk (IT_laws_markDeviceS_w_0 N) 1 34 sl_laws_markDeviceS_w (lsB Go.Proofs.Try.f156 [0]) :=
  addItB_ok (inner := []) ok (O_laws_markDeviceS_w_ok N) (jn_ok _ _) (noIt_ok) rfl (by kernel_rfl) rfl fun vs H KL r h => by
    unfold i_laws_markDeviceS_w_0 at h
    split at h
    · exact ⟨_, (le_laws_markDeviceS_w_0 N _ KL N _ _ _).trans h⟩
    · cases h
def g_laws_markDeviceS_w (N : Nat) {R : Type} (b : Bool) (n : Int) (l : List Go.Sa.Device) (k : Int → (List Go.Sa.Device) → Option R) : Option R :=
  (c_laws_markDeviceS_w_0 N b n (0 : Int) l fun n3 l2 =>
  (k n3 l2))
theorem e_laws_markDeviceS_w (N : Nat) {R : Type} (b : Bool) (n : Int) (l : List Go.Sa.Device) (K : AV → Hp E → Option R) :
    runFnI (E := E) (O_laws_markDeviceS_w N) (IT_laws_markDeviceS_w_0 N) sl_laws_markDeviceS_w J_laws_markDeviceS_w Go.Proofs.Try.f156 [(Go.Eng.AV.sc (Go.Eng.SV.slc 0 Option.none b)), (Go.Eng.AV.sc (Go.Eng.SV.int Go.IntKind.i64 n))] [(Option.some (Go.Eng.HE.mk Bool.false (Go.Eng.HB.rows (Go.Sa.B.iDevice l))))] K =
      g_laws_markDeviceS_w N b n l (fun n4 l3 => K (Go.Eng.AV.sc (Go.Eng.SV.int Go.IntKind.i64 n4)) [(Option.some (Go.Eng.HE.mk Bool.false (Go.Eng.HB.rows (Go.Sa.B.iDevice l3))))]) := by kernel_rfl
def o_laws_markDeviceS_w (N : Nat) {R : Type} (args : List AV) (H : Hp E) (K : AV → Hp E → Option R) : Option R :=
  match args, H with
  | [(Go.Eng.AV.sc (Go.Eng.SV.slc 0 Option.none b)), (Go.Eng.AV.sc (Go.Eng.SV.int Go.IntKind.i64 n))], [(Option.some (Go.Eng.HE.mk Bool.false (Go.Eng.HB.rows (Go.Sa.B.iDevice l))))] => g_laws_markDeviceS_w N b n l (fun n4 l3 => K (Go.Eng.AV.sc (Go.Eng.SV.int Go.IntKind.i64 n4)) [(Option.some (Go.Eng.HE.mk Bool.false (Go.Eng.HB.rows (Go.Sa.B.iDevice l3))))])
  | _, _ => none
theorem o_laws_markDeviceS_w_ok (N : Nat) : FnOk E 156 (o_laws_markDeviceS_w N) := by
  intro R args H K r h
  unfold o_laws_markDeviceS_w at h
  dsimp only at h
  split at h
  · exact fnB_ok (ids := [0]) (top := [0]) ok (O_laws_markDeviceS_w_ok N) (jn_ok _ _) Go.Proofs.Try.func156 (by kernel_rfl) (IT := IT_laws_markDeviceS_w_0 N) (sl := sl_laws_markDeviceS_w) (J := J_laws_markDeviceS_w) (K := K) (H := [(Option.some (Go.Eng.HE.mk Bool.false (Go.Eng.HB.rows (Go.Sa.B.iDevice _))))]) (IT_laws_markDeviceS_w_0_ok N) (by kernel_rfl) rfl ((e_laws_markDeviceS_w N _ _ _ K).trans h)
  · cases h
/-! ### loop.example/g00038/laws.markBoard -/
abbrev sl_laws_markBoard_w : SlotT := []
abbrev J_laws_markBoard_w : JT := jn [] []
noncomputable def O_laws_markBoard_w (N : Nat) : Orc E := addFn 156 (o_laws_markDeviceS_w N) (noFn)
theorem O_laws_markBoard_w_ok (N : Nat) : OrcOk (O_laws_markBoard_w N) := addFn_ok (o_laws_markDeviceS_w_ok N) (noFn_ok)
def g_laws_markBoard_w (N : Nat) {R : Type} (n : Int) (n1 : Int) (b : Bool) (n2 : Int) (l : List Go.Sa.Device) (k : Int → (List Go.Sa.Device) → Option R) : Option R :=
  (g_laws_markDeviceS_w N b n2 l fun n3 l1 =>
  (k n3 l1))
theorem e_laws_markBoard_w (N : Nat) {R : Type} (n : Int) (n1 : Int) (b : Bool) (n2 : Int) (l : List Go.Sa.Device) (K : AV → Hp E → Option R) :
    runFnI (E := E) (O_laws_markBoard_w N) (noIt) sl_laws_markBoard_w J_laws_markBoard_w Go.Proofs.Try.f90 [(Go.Eng.AV.agg [(Go.Eng.SV.int Go.IntKind.i64 n), (Go.Eng.SV.int Go.IntKind.i64 n1), (Go.Eng.SV.slc 0 Option.none b)]), (Go.Eng.AV.sc (Go.Eng.SV.int Go.IntKind.i64 n2))] [(Option.some (Go.Eng.HE.mk Bool.false (Go.Eng.HB.rows (Go.Sa.B.iDevice l))))] K =
      g_laws_markBoard_w N n n1 b n2 l (fun n4 l2 => K (Go.Eng.AV.sc (Go.Eng.SV.int Go.IntKind.i64 n4)) [(Option.some (Go.Eng.HE.mk Bool.false (Go.Eng.HB.rows (Go.Sa.B.iDevice l2))))]) := by kernel_rfl
def o_laws_markBoard_w (N : Nat) {R : Type} (args : List AV) (H : Hp E) (K : AV → Hp E → Option R) : Option R :=
  match args, H with
  | [(Go.Eng.AV.agg [(Go.Eng.SV.int Go.IntKind.i64 n), (Go.Eng.SV.int Go.IntKind.i64 n1), (Go.Eng.SV.slc 0 Option.none b)]), (Go.Eng.AV.sc (Go.Eng.SV.int Go.IntKind.i64 n2))], [(Option.some (Go.Eng.HE.mk Bool.false (Go.Eng.HB.rows (Go.Sa.B.iDevice l))))] => g_laws_markBoard_w N n n1 b n2 l (fun n4 l2 => K (Go.Eng.AV.sc (Go.Eng.SV.int Go.IntKind.i64 n4)) [(Option.some (Go.Eng.HE.mk Bool.false (Go.Eng.HB.rows (Go.Sa.B.iDevice l2))))])
  | _, _ => none
theorem o_laws_markBoard_w_ok (N : Nat) : FnOk E 90 (o_laws_markBoard_w N) := by
  intro R args H K r h
  unfold o_laws_markBoard_w at h
  dsimp only at h
  split at h
  · exact fnB_ok (ids := []) (top := []) ok (O_laws_markBoard_w_ok N) (jn_ok _ _) Go.Proofs.Try.func90 (by kernel_rfl) (IT := noIt) (sl := sl_laws_markBoard_w) (J := J_laws_markBoard_w) (K := K) (H := [(Option.some (Go.Eng.HE.mk Bool.false (Go.Eng.HB.rows (Go.Sa.B.iDevice _))))]) (noIt_ok) (by kernel_rfl) rfl ((e_laws_markBoard_w N _ _ _ _ _ K).trans h)
  · cases h
/-! ### loop.example/g00038/laws.markBoardRead -/
abbrev sl_laws_markBoardRead_w : SlotT := []
abbrev J_laws_markBoardRead_w : JT := jn [] []
noncomputable def O_laws_markBoardRead_w (N : Nat) : Orc E := addFn 90 (o_laws_markBoard_w N) (noFn)
theorem O_laws_markBoardRead_w_ok (N : Nat) : OrcOk (O_laws_markBoardRead_w N) := addFn_ok (o_laws_markBoard_w_ok N) (noFn_ok)
def g_laws_markBoardRead_w (N : Nat) {R : Type} (b : Bool) (n : Int) (n1 : Int) (b1 : Bool) (n2 : Int) (l : List Go.Sa.Device) (k : Int → (List Go.Sa.Device) → Option R) : Option R :=
  (g_laws_markBoard_w N n n1 b1 n2 l fun n3 l1 =>
  (k n3 l1))
theorem e_laws_markBoardRead_w (N : Nat) {R : Type} (b : Bool) (n : Int) (n1 : Int) (b1 : Bool) (n2 : Int) (l : List Go.Sa.Device) (K : AV → Hp E → Option R) :
    runFnI (E := E) (O_laws_markBoardRead_w N) (noIt) sl_laws_markBoardRead_w J_laws_markBoardRead_w Go.Proofs.Try.f32 [(Go.Eng.AV.agg [(Go.Eng.SV.bool b), (Go.Eng.SV.int Go.IntKind.i64 n), (Go.Eng.SV.int Go.IntKind.i64 n1), (Go.Eng.SV.slc 0 Option.none b1)]), (Go.Eng.AV.sc (Go.Eng.SV.int Go.IntKind.i64 n2))] [(Option.some (Go.Eng.HE.mk Bool.false (Go.Eng.HB.rows (Go.Sa.B.iDevice l))))] K =
      g_laws_markBoardRead_w N b n n1 b1 n2 l (fun n4 l2 => K (Go.Eng.AV.sc (Go.Eng.SV.int Go.IntKind.i64 n4)) [(Option.some (Go.Eng.HE.mk Bool.false (Go.Eng.HB.rows (Go.Sa.B.iDevice l2))))]) := by kernel_rfl
def o_laws_markBoardRead_w (N : Nat) {R : Type} (args : List AV) (H : Hp E) (K : AV → Hp E → Option R) : Option R :=
  match args, H with
  | [(Go.Eng.AV.agg [(Go.Eng.SV.bool b), (Go.Eng.SV.int Go.IntKind.i64 n), (Go.Eng.SV.int Go.IntKind.i64 n1), (Go.Eng.SV.slc 0 Option.none b1)]), (Go.Eng.AV.sc (Go.Eng.SV.int Go.IntKind.i64 n2))], [(Option.some (Go.Eng.HE.mk Bool.false (Go.Eng.HB.rows (Go.Sa.B.iDevice l))))] => g_laws_markBoardRead_w N b n n1 b1 n2 l (fun n4 l2 => K (Go.Eng.AV.sc (Go.Eng.SV.int Go.IntKind.i64 n4)) [(Option.some (Go.Eng.HE.mk Bool.false (Go.Eng.HB.rows (Go.Sa.B.iDevice l2))))])
  | _, _ => none
theorem o_laws_markBoardRead_w_ok (N : Nat) : FnOk E 32 (o_laws_markBoardRead_w N) := by
  intro R args H K r h
  unfold o_laws_markBoardRead_w at h
  dsimp only at h
  split at h
  · exact fnB_ok (ids := []) (top := []) ok (O_laws_markBoardRead_w_ok N) (jn_ok _ _) Go.Proofs.Try.func32 (by kernel_rfl) (IT := noIt) (sl := sl_laws_markBoardRead_w) (J := J_laws_markBoardRead_w) (K := K) (H := [(Option.some (Go.Eng.HE.mk Bool.false (Go.Eng.HB.rows (Go.Sa.B.iDevice _))))]) (noIt_ok) (by kernel_rfl) rfl ((e_laws_markBoardRead_w N _ _ _ _ _ _ K).trans h)
  · cases h
/-! ### loop.example/g00038/laws.heldDeviceS -/
abbrev sl_laws_heldDeviceS_w : SlotT := [(0, ([0, 1, 5], [1, 4]))]
abbrev J_laws_heldDeviceS_w : JT := jn [] []
noncomputable def O_laws_heldDeviceS_w (N : Nat) : Orc E := noFn
theorem O_laws_heldDeviceS_w_ok (N : Nat) : OrcOk (O_laws_heldDeviceS_w N) := noFn_ok
def s_laws_heldDeviceS_w_0 (N : Nat) {R : Type} (b1 : Bool) (l1 : List Go.Sa.Device) (n1 : Int) (n2 : Int) (ag : Int → Int → Option R)  (kR : Int → Option R) (kN : Int → Option R) : Option R :=
  (cond (decide ((n2 < (((List.length l1) : Nat) : Int))))
  (cond ((decide (((0 : Int) ≤ n2))) && (decide ((n2 < (((List.length l1) : Nat) : Int)))))
    (elemK l1 (Int.toNat n2) fun x =>
      (cond ((Go.Sa.Device.fKind x) != n1)
      (kR n1)
      (cond ((decide (((0 : Int) ≤ n2))) && (decide ((n2 < (((List.length l1) : Nat) : Int)))))
        (elemK l1 (Int.toNat n2) fun x1 =>
          (cond ((Go.Sa.Device.fPort x1) != (Go.IntKind.wrap Go.IntKind.i64 (n1 + (1 : Int))))
          (kR (Go.IntKind.wrap Go.IntKind.i64 (n1 + (1 : Int))))
          (cond ((decide (((0 : Int) ≤ n2))) && (decide ((n2 < (((List.length l1) : Nat) : Int)))))
            (elemK l1 (Int.toNat n2) fun x2 =>
              (cond ((Go.Sa.Device.fLine x2) != (Go.IntKind.wrap Go.IntKind.i64 ((Go.IntKind.wrap Go.IntKind.i64 (n1 + (1 : Int))) + (1 : Int))))
              (kR (Go.IntKind.wrap Go.IntKind.i64 ((Go.IntKind.wrap Go.IntKind.i64 (n1 + (1 : Int))) + (1 : Int))))
              (ag (Go.IntKind.wrap Go.IntKind.i64 ((Go.IntKind.wrap Go.IntKind.i64 ((Go.IntKind.wrap Go.IntKind.i64 (n1 + (1 : Int))) + (1 : Int))) + (1 : Int))) (Go.IntKind.wrap Go.IntKind.i64 (n2 + (1 : Int))))))
            none)))
        none)))
    none)
  (kN n1))
def l_laws_heldDeviceS_w_0 (N : Nat) {R : Type} (b1 : Bool) (l1 : List Go.Sa.Device) (kR : Int → Option R) (kN : Int → Option R) : Nat → Int → Int → Option R
  | 0, _, _ => none
  | f + 1, n1, n2 => s_laws_heldDeviceS_w_0 N b1 l1 n1 n2 (fun n1 n2 => l_laws_heldDeviceS_w_0 N b1 l1 kR kN f n1 n2)  kR kN
def c_laws_heldDeviceS_w_0 (N : Nat) {R : Type} (b1 : Bool) (l1 : List Go.Sa.Device) (n1 : Int) (n2 : Int) (kR : Int → Option R) (kN : Int → Option R) : Option R := l_laws_heldDeviceS_w_0 N b1 l1 kR kN N n1 n2
theorem se_laws_heldDeviceS_w_0 (N : Nat) {R : Type} (b1 : Bool) (l1 : List Go.Sa.Device) (n1 : Int) (n2 : Int) (AG : List (Option AV) → Hp E → Option R) (KL : Ex → List (Option AV) → Hp E → Option R) :
    iterStep (E := E) (O_laws_heldDeviceS_w N) (fun {R} => LI (noIt) 1 40 sl_laws_heldDeviceS_w (R := R)) J_laws_heldDeviceS_w 1 40 0 [0, 1, 5] [1, 4] (body Go.Proofs.Try.f157 0) AG KL [(Option.some (Go.Eng.AV.sc (Go.Eng.SV.slc 0 Option.none b1))), (Option.some (Go.Eng.AV.sc (Go.Eng.SV.int Go.IntKind.i64 n1))), (Option.some (Go.Eng.AV.sc (Go.Eng.SV.int Go.IntKind.i64 n2)))] [(Option.some (Go.Eng.HE.mk Bool.false (Go.Eng.HB.rows (Go.Sa.B.iDevice l1))))] =
      s_laws_heldDeviceS_w_0 N b1 l1 n1 n2 (fun n1 n2 => AG [(Option.some (Go.Eng.AV.sc (Go.Eng.SV.slc 0 Option.none b1))), (Option.some (Go.Eng.AV.sc (Go.Eng.SV.int Go.IntKind.i64 n1))), (Option.some (Go.Eng.AV.sc (Go.Eng.SV.int Go.IntKind.i64 n2)))] [(Option.some (Go.Eng.HE.mk Bool.false (Go.Eng.HB.rows (Go.Sa.B.iDevice l1))))])  (fun n6 => KL Go.Eng.Ex.ret [(Option.some (Go.Eng.AV.sc (Go.Eng.SV.int Go.IntKind.i64 n6))), (Option.some (Go.Eng.AV.sc (Go.Eng.SV.int Go.IntKind.i64 (-(1 : Int)))))] [(Option.some (Go.Eng.HE.mk Bool.false (Go.Eng.HB.rows (Go.Sa.B.iDevice l1))))]) (fun n7 => KL Go.Eng.Ex.normal [(Option.some (Go.Eng.AV.sc (Go.Eng.SV.int Go.IntKind.i64 n7))), Option.none] [(Option.some (Go.Eng.HE.mk Bool.false (Go.Eng.HB.rows (Go.Sa.B.iDevice l1))))]) := by kernel_rfl
theorem le_laws_heldDeviceS_w_0 (N : Nat) {R : Type} (b1 : Bool) (l1 : List Go.Sa.Device) (KL : Ex → List (Option AV) → Hp E → Option R) : ∀ (f : Nat), ∀ (n1 : Int) (n2 : Int), iterK (E := E) (O_laws_heldDeviceS_w N) (fun {R} => LI (noIt) 1 40 sl_laws_heldDeviceS_w (R := R)) J_laws_heldDeviceS_w 1 40 0 [0, 1, 5] [1, 4] (body Go.Proofs.Try.f157 0) f [(Option.some (Go.Eng.AV.sc (Go.Eng.SV.slc 0 Option.none b1))), (Option.some (Go.Eng.AV.sc (Go.Eng.SV.int Go.IntKind.i64 n1))), (Option.some (Go.Eng.AV.sc (Go.Eng.SV.int Go.IntKind.i64 n2)))] [(Option.some (Go.Eng.HE.mk Bool.false (Go.Eng.HB.rows (Go.Sa.B.iDevice l1))))] KL = l_laws_heldDeviceS_w_0 N b1 l1 (fun n6 => KL Go.Eng.Ex.ret [(Option.some (Go.Eng.AV.sc (Go.Eng.SV.int Go.IntKind.i64 n6))), (Option.some (Go.Eng.AV.sc (Go.Eng.SV.int Go.IntKind.i64 (-(1 : Int)))))] [(Option.some (Go.Eng.HE.mk Bool.false (Go.Eng.HB.rows (Go.Sa.B.iDevice l1))))]) (fun n7 => KL Go.Eng.Ex.normal [(Option.some (Go.Eng.AV.sc (Go.Eng.SV.int Go.IntKind.i64 n7))), Option.none] [(Option.some (Go.Eng.HE.mk Bool.false (Go.Eng.HB.rows (Go.Sa.B.iDevice l1))))]) f n1 n2 := by
  intro f
  induction f with
  | zero => intros; rfl
  | succ f ih =>
    intro n1 n2
    rw [iterK_succ, se_laws_heldDeviceS_w_0]
    exact (congrArg (fun z0 => s_laws_heldDeviceS_w_0 N b1 l1 n1 n2 z0 (fun n6 => KL Go.Eng.Ex.ret [(Option.some (Go.Eng.AV.sc (Go.Eng.SV.int Go.IntKind.i64 n6))), (Option.some (Go.Eng.AV.sc (Go.Eng.SV.int Go.IntKind.i64 (-(1 : Int)))))] [(Option.some (Go.Eng.HE.mk Bool.false (Go.Eng.HB.rows (Go.Sa.B.iDevice l1))))]) (fun n7 => KL Go.Eng.Ex.normal [(Option.some (Go.Eng.AV.sc (Go.Eng.SV.int Go.IntKind.i64 n7))), Option.none] [(Option.some (Go.Eng.HE.mk Bool.false (Go.Eng.HB.rows (Go.Sa.B.iDevice l1))))])) (funext fun n1 => funext fun n2 => ih n1 n2))
def i_laws_heldDeviceS_w_0 (N : Nat) {R : Type} (vs : List (Option AV)) (H : Hp E) (KL : Ex → List (Option AV) → Hp E → Option R) : Option R :=
  match vs, H with
  | [(Option.some (Go.Eng.AV.sc (Go.Eng.SV.slc 0 Option.none b1))), (Option.some (Go.Eng.AV.sc (Go.Eng.SV.int Go.IntKind.i64 n1))), (Option.some (Go.Eng.AV.sc (Go.Eng.SV.int Go.IntKind.i64 n2)))], [(Option.some (Go.Eng.HE.mk Bool.false (Go.Eng.HB.rows (Go.Sa.B.iDevice l1))))] => c_laws_heldDeviceS_w_0 N b1 l1 n1 n2 (fun n8 => KL Go.Eng.Ex.ret [(Option.some (Go.Eng.AV.sc (Go.Eng.SV.int Go.IntKind.i64 n8))), (Option.some (Go.Eng.AV.sc (Go.Eng.SV.int Go.IntKind.i64 (-(1 : Int)))))] [(Option.some (Go.Eng.HE.mk Bool.false (Go.Eng.HB.rows (Go.Sa.B.iDevice l1))))]) (fun n9 => KL Go.Eng.Ex.normal [(Option.some (Go.Eng.AV.sc (Go.Eng.SV.int Go.IntKind.i64 n9))), Option.none] [(Option.some (Go.Eng.HE.mk Bool.false (Go.Eng.HB.rows (Go.Sa.B.iDevice l1))))])
  | _, _ => none
noncomputable def IT_laws_heldDeviceS_w_0 (N : Nat) : Its E := addIt 0 (i_laws_heldDeviceS_w_0 N) (noIt)
theorem IT_laws_heldDeviceS_w_0_ok (N : Nat) : ItOk (IT_laws_heldDeviceS_w_0 N) 1 40 sl_laws_heldDeviceS_w (lsB Go.Proofs.Try.f157 [0]) :=
  addItB_ok (inner := []) ok (O_laws_heldDeviceS_w_ok N) (jn_ok _ _) (noIt_ok) rfl (by kernel_rfl) rfl fun vs H KL r h => by
    unfold i_laws_heldDeviceS_w_0 at h
    split at h
    · exact ⟨_, (le_laws_heldDeviceS_w_0 N _ _ KL N _ _).trans h⟩
    · cases h
def g_laws_heldDeviceS_w (N : Nat) {R : Type} (b : Bool) (n : Int) (l : List Go.Sa.Device) (k : Int → Option R) : Option R :=
  (c_laws_heldDeviceS_w_0 N b l n (0 : Int) (fun n3 =>
  (k (-(1 : Int)))) (fun n4 =>
  (k n4)))
theorem e_laws_heldDeviceS_w (N : Nat) {R : Type} (b : Bool) (n : Int) (l : List Go.Sa.Device) (K : AV → Hp E → Option R) :
    runFnI (E := E) (O_laws_heldDeviceS_w N) (IT_laws_heldDeviceS_w_0 N) sl_laws_heldDeviceS_w J_laws_heldDeviceS_w Go.Proofs.Try.f157 [(Go.Eng.AV.sc (Go.Eng.SV.slc 0 Option.none b)), (Go.Eng.AV.sc (Go.Eng.SV.int Go.IntKind.i64 n))] [(Option.some (Go.Eng.HE.mk Bool.false (Go.Eng.HB.rows (Go.Sa.B.iDevice l))))] K =
      g_laws_heldDeviceS_w N b n l (fun n5 => K (Go.Eng.AV.sc (Go.Eng.SV.int Go.IntKind.i64 n5)) [(Option.some (Go.Eng.HE.mk Bool.false (Go.Eng.HB.rows (Go.Sa.B.iDevice l))))]) := by kernel_rfl
def o_laws_heldDeviceS_w (N : Nat) {R : Type} (args : List AV) (H : Hp E) (K : AV → Hp E → Option R) : Option R :=
  match args, H with
  | [(Go.Eng.AV.sc (Go.Eng.SV.slc 0 Option.none b)), (Go.Eng.AV.sc (Go.Eng.SV.int Go.IntKind.i64 n))], [(Option.some (Go.Eng.HE.mk Bool.false (Go.Eng.HB.rows (Go.Sa.B.iDevice l))))] => g_laws_heldDeviceS_w N b n l (fun n5 => K (Go.Eng.AV.sc (Go.Eng.SV.int Go.IntKind.i64 n5)) [(Option.some (Go.Eng.HE.mk Bool.false (Go.Eng.HB.rows (Go.Sa.B.iDevice l))))])
  | _, _ => none
theorem o_laws_heldDeviceS_w_ok (N : Nat) : FnOk E 157 (o_laws_heldDeviceS_w N) := by
  intro R args H K r h
  unfold o_laws_heldDeviceS_w at h
  dsimp only at h
  split at h
  · exact fnB_ok (ids := [0]) (top := [0]) ok (O_laws_heldDeviceS_w_ok N) (jn_ok _ _) Go.Proofs.Try.func157 (by kernel_rfl) (IT := IT_laws_heldDeviceS_w_0 N) (sl := sl_laws_heldDeviceS_w) (J := J_laws_heldDeviceS_w) (K := K) (H := [(Option.some (Go.Eng.HE.mk Bool.false (Go.Eng.HB.rows (Go.Sa.B.iDevice _))))]) (IT_laws_heldDeviceS_w_0_ok N) (by kernel_rfl) rfl ((e_laws_heldDeviceS_w N _ _ _ K).trans h)
  · cases h
/-! ### loop.example/g00038/laws.heldBoard -/
abbrev sl_laws_heldBoard_w : SlotT := []
abbrev J_laws_heldBoard_w : JT := jn [] []
noncomputable def O_laws_heldBoard_w (N : Nat) : Orc E := addFn 157 (o_laws_heldDeviceS_w N) (noFn)
theorem O_laws_heldBoard_w_ok (N : Nat) : OrcOk (O_laws_heldBoard_w N) := addFn_ok (o_laws_heldDeviceS_w_ok N) (noFn_ok)
def g_laws_heldBoard_w (N : Nat) {R : Type} (n : Int) (n1 : Int) (b : Bool) (n2 : Int) (l : List Go.Sa.Device) (k : Int → Option R) : Option R :=
  (g_laws_heldDeviceS_w N b n2 l fun n3 =>
  (cond (decide ((n3 < (0 : Int))))
  (k (-(1 : Int)))
  (k n3)))
theorem e_laws_heldBoard_w (N : Nat) {R : Type} (n : Int) (n1 : Int) (b : Bool) (n2 : Int) (l : List Go.Sa.Device) (K : AV → Hp E → Option R) :
    runFnI (E := E) (O_laws_heldBoard_w N) (noIt) sl_laws_heldBoard_w J_laws_heldBoard_w Go.Proofs.Try.f91 [(Go.Eng.AV.agg [(Go.Eng.SV.int Go.IntKind.i64 n), (Go.Eng.SV.int Go.IntKind.i64 n1), (Go.Eng.SV.slc 0 Option.none b)]), (Go.Eng.AV.sc (Go.Eng.SV.int Go.IntKind.i64 n2))] [(Option.some (Go.Eng.HE.mk Bool.false (Go.Eng.HB.rows (Go.Sa.B.iDevice l))))] K =
      g_laws_heldBoard_w N n n1 b n2 l (fun n4 => K (Go.Eng.AV.sc (Go.Eng.SV.int Go.IntKind.i64 n4)) [(Option.some (Go.Eng.HE.mk Bool.false (Go.Eng.HB.rows (Go.Sa.B.iDevice l))))]) := by kernel_rfl
def o_laws_heldBoard_w (N : Nat) {R : Type} (args : List AV) (H : Hp E) (K : AV → Hp E → Option R) : Option R :=
  match args, H with
  | [(Go.Eng.AV.agg [(Go.Eng.SV.int Go.IntKind.i64 n), (Go.Eng.SV.int Go.IntKind.i64 n1), (Go.Eng.SV.slc 0 Option.none b)]), (Go.Eng.AV.sc (Go.Eng.SV.int Go.IntKind.i64 n2))], [(Option.some (Go.Eng.HE.mk Bool.false (Go.Eng.HB.rows (Go.Sa.B.iDevice l))))] => g_laws_heldBoard_w N n n1 b n2 l (fun n4 => K (Go.Eng.AV.sc (Go.Eng.SV.int Go.IntKind.i64 n4)) [(Option.some (Go.Eng.HE.mk Bool.false (Go.Eng.HB.rows (Go.Sa.B.iDevice l))))])
  | _, _ => none
theorem o_laws_heldBoard_w_ok (N : Nat) : FnOk E 91 (o_laws_heldBoard_w N) := by
  intro R args H K r h
  unfold o_laws_heldBoard_w at h
  dsimp only at h
  split at h
  · exact fnB_ok (ids := []) (top := []) ok (O_laws_heldBoard_w_ok N) (jn_ok _ _) Go.Proofs.Try.func91 (by kernel_rfl) (IT := noIt) (sl := sl_laws_heldBoard_w) (J := J_laws_heldBoard_w) (K := K) (H := [(Option.some (Go.Eng.HE.mk Bool.false (Go.Eng.HB.rows (Go.Sa.B.iDevice _))))]) (noIt_ok) (by kernel_rfl) rfl ((e_laws_heldBoard_w N _ _ _ _ _ K).trans h)
  · cases h
/-! ### loop.example/g00038/laws.heldBoardRead -/
abbrev sl_laws_heldBoardRead_w : SlotT := []
abbrev J_laws_heldBoardRead_w : JT := jn [] []
noncomputable def O_laws_heldBoardRead_w (N : Nat) : Orc E := addFn 91 (o_laws_heldBoard_w N) (noFn)
theorem O_laws_heldBoardRead_w_ok (N : Nat) : OrcOk (O_laws_heldBoardRead_w N) := addFn_ok (o_laws_heldBoard_w_ok N) (noFn_ok)
def g_laws_heldBoardRead_w (N : Nat) {R : Type} (b : Bool) (n : Int) (n1 : Int) (b1 : Bool) (n2 : Int) (l : List Go.Sa.Device) (k : Int → Option R) : Option R :=
  (g_laws_heldBoard_w N n n1 b1 n2 l fun n3 =>
  (cond (decide ((n3 < (0 : Int))))
  (k (-(1 : Int)))
  (k n3)))
theorem e_laws_heldBoardRead_w (N : Nat) {R : Type} (b : Bool) (n : Int) (n1 : Int) (b1 : Bool) (n2 : Int) (l : List Go.Sa.Device) (K : AV → Hp E → Option R) :
    runFnI (E := E) (O_laws_heldBoardRead_w N) (noIt) sl_laws_heldBoardRead_w J_laws_heldBoardRead_w Go.Proofs.Try.f33 [(Go.Eng.AV.agg [(Go.Eng.SV.bool b), (Go.Eng.SV.int Go.IntKind.i64 n), (Go.Eng.SV.int Go.IntKind.i64 n1), (Go.Eng.SV.slc 0 Option.none b1)]), (Go.Eng.AV.sc (Go.Eng.SV.int Go.IntKind.i64 n2))] [(Option.some (Go.Eng.HE.mk Bool.false (Go.Eng.HB.rows (Go.Sa.B.iDevice l))))] K =
      g_laws_heldBoardRead_w N b n n1 b1 n2 l (fun n4 => K (Go.Eng.AV.sc (Go.Eng.SV.int Go.IntKind.i64 n4)) [(Option.some (Go.Eng.HE.mk Bool.false (Go.Eng.HB.rows (Go.Sa.B.iDevice l))))]) := by kernel_rfl
def o_laws_heldBoardRead_w (N : Nat) {R : Type} (args : List AV) (H : Hp E) (K : AV → Hp E → Option R) : Option R :=
  match args, H with
  | [(Go.Eng.AV.agg [(Go.Eng.SV.bool b), (Go.Eng.SV.int Go.IntKind.i64 n), (Go.Eng.SV.int Go.IntKind.i64 n1), (Go.Eng.SV.slc 0 Option.none b1)]), (Go.Eng.AV.sc (Go.Eng.SV.int Go.IntKind.i64 n2))], [(Option.some (Go.Eng.HE.mk Bool.false (Go.Eng.HB.rows (Go.Sa.B.iDevice l))))] => g_laws_heldBoardRead_w N b n n1 b1 n2 l (fun n4 => K (Go.Eng.AV.sc (Go.Eng.SV.int Go.IntKind.i64 n4)) [(Option.some (Go.Eng.HE.mk Bool.false (Go.Eng.HB.rows (Go.Sa.B.iDevice l))))])
  | _, _ => none
theorem o_laws_heldBoardRead_w_ok (N : Nat) : FnOk E 33 (o_laws_heldBoardRead_w N) := by
  intro R args H K r h
  unfold o_laws_heldBoardRead_w at h
  dsimp only at h
  split at h
  · exact fnB_ok (ids := []) (top := []) ok (O_laws_heldBoardRead_w_ok N) (jn_ok _ _) Go.Proofs.Try.func33 (by kernel_rfl) (IT := noIt) (sl := sl_laws_heldBoardRead_w) (J := J_laws_heldBoardRead_w) (K := K) (H := [(Option.some (Go.Eng.HE.mk Bool.false (Go.Eng.HB.rows (Go.Sa.B.iDevice _))))]) (noIt_ok) (by kernel_rfl) rfl ((e_laws_heldBoardRead_w N _ _ _ _ _ _ K).trans h)
  · cases h
/-! ### loop.example/g00038/laws.FnExactBoardOf -/
def oc_laws_FnExactBoardOf_r_29 (N : Nat) {R : Type} (args : List AV) (H : Hp E) (K : AV → Hp E → Option R) : Option R :=
  match args, H with
  | [(Go.Eng.AV.agg [(Go.Eng.SV.bool _), (Go.Eng.SV.int Go.IntKind.i64 _), (Go.Eng.SV.int Go.IntKind.i64 _), (Go.Eng.SV.slc 0 Option.none _)]), (Go.Eng.AV.agg [(Go.Eng.SV.bool _), (Go.Eng.SV.int Go.IntKind.i64 _), (Go.Eng.SV.int Go.IntKind.i64 _), (Go.Eng.SV.slc 1 Option.none _)])], [(Option.some (Go.Eng.HE.mk Bool.false (Go.Eng.HB.rows (Go.Sa.B.iDevice _)))), (Option.some (Go.Eng.HE.mk Bool.false (Go.Eng.HB.rows (Go.Sa.B.iDevice _))))] => o_laws_eqBoardRead_ww N args H K
  | [(Go.Eng.AV.agg [(Go.Eng.SV.bool _), (Go.Eng.SV.int Go.IntKind.i64 _), (Go.Eng.SV.int Go.IntKind.i64 _), (Go.Eng.SV.slc 0 Option.none _)]), (Go.Eng.AV.agg [(Go.Eng.SV.bool _), (Go.Eng.SV.int Go.IntKind.i64 _), (Go.Eng.SV.int Go.IntKind.i64 _), (Go.Eng.SV.slc 1 Option.none _)])], [(Option.some (Go.Eng.HE.mk Bool.true (Go.Eng.HB.rows (Go.Sa.B.iDevice _)))), (Option.some (Go.Eng.HE.mk Bool.true (Go.Eng.HB.rows (Go.Sa.B.iDevice _))))] => o_laws_eqBoardRead_rr N args H K
  | _, _ => none
theorem oc_laws_FnExactBoardOf_r_29_ok (N : Nat) : FnOk E 29 (oc_laws_FnExactBoardOf_r_29 N) := by
  intro R args H K r h
  unfold oc_laws_FnExactBoardOf_r_29 at h
  dsimp only at h
  split at h
  · exact o_laws_eqBoardRead_ww_ok N _ _ _ _ h
  · exact o_laws_eqBoardRead_rr_ok N _ _ _ _ h
  · cases h
abbrev sl_laws_FnExactBoardOf_r : SlotT := []
abbrev J_laws_FnExactBoardOf_r : JT := jn [(14, [(42, .b)])] []
noncomputable def O_laws_FnExactBoardOf_r (N : Nat) : Orc E := addFn 33 (o_laws_heldBoardRead_w N) (addFn 32 (o_laws_markBoardRead_w N) (addFn 31 (o_laws_markFirmTableS_w N) (addFn 30 (o_laws_eqFirmTableS_ww N) (addFn 29 (oc_laws_FnExactBoardOf_r_29 N) (addFn 28 (o_impl_BoardOf_w N) (addFn 26 (o_spec_BoardOf_w N) (addFn 27 (o_laws_toFirmTableS_r N) (addFn 25 (o_laws_szFirmTableS_r N) (noFn)))))))))
theorem O_laws_FnExactBoardOf_r_ok (N : Nat) : OrcOk (O_laws_FnExactBoardOf_r N) := addFn_ok (o_laws_heldBoardRead_w_ok N) (addFn_ok (o_laws_markBoardRead_w_ok N) (addFn_ok (o_laws_markFirmTableS_w_ok N) (addFn_ok (o_laws_eqFirmTableS_ww_ok N) (addFn_ok (oc_laws_FnExactBoardOf_r_29_ok N) (addFn_ok (o_impl_BoardOf_w_ok N) (addFn_ok (o_spec_BoardOf_w_ok N) (addFn_ok (o_laws_toFirmTableS_r_ok N) (addFn_ok (o_laws_szFirmTableS_r_ok N) (noFn_ok)))))))))
def g_laws_FnExactBoardOf_r (N : Nat) {R : Type} (b : Bool) (l : List Go.Sa.FirmTable) (k : Bool → Option R) : Option R :=
  (g_laws_szFirmTableS_r N b (1048576 : Int) l fun n =>
  (cond (decide ((n < (0 : Int))))
  (k Bool.true)
  (g_laws_toFirmTableS_r N b l fun l1 =>
    (g_spec_BoardOf_w N Bool.false l1 fun b1 n1 n2 b2 l2 =>
    (g_laws_toFirmTableS_r N b l fun l3 =>
    (g_impl_BoardOf_w N Bool.false l3 fun b3 n3 n4 b4 l4 =>
    (g_laws_eqBoardRead_ww N b3 n3 n4 b4 b1 n1 n2 b2 l4 l2 fun b5 =>
    (cond (!b5)
    (k Bool.false)
    (g_laws_toFirmTableS_r N b l fun l5 =>
      (g_laws_eqFirmTableS_ww N Bool.false Bool.false l3 l5 fun b6 =>
      (cond (!b6)
      (k Bool.false)
      (g_laws_markFirmTableS_w N Bool.false (1 : Int) l3 fun n5 l6 =>
        (oK (cond (decide ((n5 < (0 : Int))))
          (some Bool.true)
          (g_laws_eqBoardRead_rr N b3 n3 n4 b4 b1 n1 n2 b2 l4 l2 fun b7 =>
            (some (!b7)))) fun j =>
        (cond j
        (k Bool.false)
        (g_laws_markBoardRead_w N b3 n3 n4 b4 (1 : Int) l4 fun n6 l7 =>
          (g_laws_heldBoardRead_w N b3 n3 n4 b4 (1 : Int) l7 fun n7 =>
          (cond (decide ((n7 < (0 : Int))))
          (k Bool.false)
          (cond (n7 != n6)
            (k Bool.false)
            (g_laws_toFirmTableS_r N b l fun l8 =>
              (g_impl_BoardOf_w N Bool.false l8 fun b8 n8 n9 b9 l9 =>
              (g_laws_eqBoardRead_ww N b8 n8 n9 b9 b1 n1 n2 b2 l9 l2 fun b10 =>
              (cond (!b10)
              (k Bool.false)
              (g_laws_heldBoardRead_w N b3 n3 n4 b4 (1 : Int) l7 fun n10 =>
                (cond (decide ((n10 < (0 : Int))))
                (k Bool.false)
                (cond (n10 != n6)
                  (k Bool.false)
                  (k Bool.true))))))))))))))))))))))))))
theorem e_laws_FnExactBoardOf_r (N : Nat) {R : Type} (b : Bool) (l : List Go.Sa.FirmTable) (K : AV → Hp E → Option R) :
    runFnI (E := E) (O_laws_FnExactBoardOf_r N) (noIt) sl_laws_FnExactBoardOf_r J_laws_FnExactBoardOf_r Go.Proofs.Try.f6 [(Go.Eng.AV.sc (Go.Eng.SV.slc 0 Option.none b))] [(Option.some (Go.Eng.HE.mk Bool.true (Go.Eng.HB.rows (Go.Sa.B.lFirmTable l))))] K =
      g_laws_FnExactBoardOf_r N b l (fun b11 => K (Go.Eng.AV.sc (Go.Eng.SV.bool b11)) [(Option.some (Go.Eng.HE.mk Bool.true (Go.Eng.HB.rows (Go.Sa.B.lFirmTable l))))]) := by kernel_rfl
def o_laws_FnExactBoardOf_r (N : Nat) {R : Type} (args : List AV) (H : Hp E) (K : AV → Hp E → Option R) : Option R :=
  match args, H with
  | [(Go.Eng.AV.sc (Go.Eng.SV.slc 0 Option.none b))], [(Option.some (Go.Eng.HE.mk Bool.true (Go.Eng.HB.rows (Go.Sa.B.lFirmTable l))))] => g_laws_FnExactBoardOf_r N b l (fun b11 => K (Go.Eng.AV.sc (Go.Eng.SV.bool b11)) [(Option.some (Go.Eng.HE.mk Bool.true (Go.Eng.HB.rows (Go.Sa.B.lFirmTable l))))])
  | _, _ => none
theorem o_laws_FnExactBoardOf_r_ok (N : Nat) : FnOk E 6 (o_laws_FnExactBoardOf_r N) := by
  intro R args H K r h
  unfold o_laws_FnExactBoardOf_r at h
  dsimp only at h
  split at h
  · exact fnB_ok (ids := []) (top := []) ok (O_laws_FnExactBoardOf_r_ok N) (jn_ok _ _) Go.Proofs.Try.func6 (by kernel_rfl) (IT := noIt) (sl := sl_laws_FnExactBoardOf_r) (J := J_laws_FnExactBoardOf_r) (K := K) (H := [(Option.some (Go.Eng.HE.mk Bool.true (Go.Eng.HB.rows (Go.Sa.B.lFirmTable _))))]) (noIt_ok) (by kernel_rfl) rfl ((e_laws_FnExactBoardOf_r N _ _ K).trans h)
  · cases h
end Go.Sa
