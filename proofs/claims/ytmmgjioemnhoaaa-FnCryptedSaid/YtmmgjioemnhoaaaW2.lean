import Derived.Test.YtmmgjioemnhoaaaSpec
import Derived.Test.YtmmgjioemnhoaaaPLb
import Derived.Test.YtmmgjioemnhoaaaW1
set_option linter.all false
namespace Go.Sa
open Go Go.Eng Go.Proofs
set_option maxRecDepth 100000
/-! ### loop.example/g00038/impl.CryptDisk -/
def oc_impl_CryptDisk_95 (N : Nat) {R : Type} (args : List AV) (H : Hp E) (K : AV → Hp E → Option R) : Option R :=
  match args, H with
  | [(Go.Eng.AV.sc (Go.Eng.SV.ptr 0 0 0)), (Go.Eng.AV.sc (Go.Eng.SV.str _))], [(Option.some (Go.Eng.HE.mk Bool.false (Go.Eng.HB.exp (Option.some 116) [Go.Eng.SV.nilp, (Go.Eng.SV.slc 1 Option.none _)]))), (Option.some (Go.Eng.HE.mk Bool.false (Go.Eng.HB.rows (Go.Sa.B.u8 _))))] => o_strings_Builder_WriteString_Ww N args H K
  | [(Go.Eng.AV.sc (Go.Eng.SV.ptr 0 0 0)), (Go.Eng.AV.sc (Go.Eng.SV.str _))], [(Option.some (Go.Eng.HE.mk Bool.false (Go.Eng.HB.exp (Option.some 116) [(Go.Eng.SV.ptr 0 0 0), (Go.Eng.SV.slc 1 Option.none _)]))), (Option.some (Go.Eng.HE.mk Bool.false (Go.Eng.HB.rows (Go.Sa.B.u8 _))))] => o_strings_Builder_WriteString_Ww_v1 N args H K
  | _, _ => none
theorem oc_impl_CryptDisk_95_ok (N : Nat) : FnOk E 95 (oc_impl_CryptDisk_95 N) := by
  intro R args H K r h
  unfold oc_impl_CryptDisk_95 at h
  dsimp only at h
  split at h
  · exact o_strings_Builder_WriteString_Ww_ok N _ _ _ _ h
  · exact o_strings_Builder_WriteString_Ww_v1_ok N _ _ _ _ h
  · cases h
abbrev sl_impl_CryptDisk : SlotT := [(0, ([0, 1, 5, 6], [5]))]
abbrev J_impl_CryptDisk : JT := jn [(1, [(20, .b)])] [] []
noncomputable def O_impl_CryptDisk (N : Nat) : Orc E := addFn 96 osp_96 (addFn 95 (oc_impl_CryptDisk_95 N) (addFn 40 (o_impl_Crypt N) (addFn 92 (o_impl_ybig_w N) (addFn 57 (o_impl_ylongKey_w N) (noFn)))))
theorem O_impl_CryptDisk_ok (N : Nat) : OrcOk (O_impl_CryptDisk N) := addFn_ok osp_96_ok (addFn_ok (oc_impl_CryptDisk_95_ok N) (addFn_ok (o_impl_Crypt_ok N) (addFn_ok (o_impl_ybig_w_ok N) (addFn_ok (o_impl_ylongKey_w_ok N) (noFn_ok)))))
def s_impl_CryptDisk_0 (N : Nat) {R : Type} (s5 : ByteArray) (s6 : ByteArray) (n2 : Int) (b4 : Bool) (l2 : List Int) (ag : Int → Bool → (List Int) → Option R)  (kN : Bool → (List Int) → Option R) : Option R :=
  (cond (decide ((n2 < (((ByteArray.size s6) : Nat) : Int))))
  (cond (((decide (((0 : Int) ≤ n2))) && (decide ((n2 ≤ (Go.IntKind.wrap Go.IntKind.i64 (n2 + (16 : Int))))))) && (decide (((Go.IntKind.wrap Go.IntKind.i64 (n2 + (16 : Int))) ≤ (((ByteArray.size s6) : Nat) : Int)))))
    (g_impl_Crypt N s5 (Go.IntKind.wrap Go.IntKind.i64 (Int.tdiv n2 (16 : Int))) (ByteArray.extract s6 (Int.toNat n2) (Int.toNat (Go.IntKind.wrap Go.IntKind.i64 (n2 + (16 : Int))))) fun s7 =>
      (g_strings_Builder_WriteString_Ww_v1 N s7 b4 l2 fun n3 b5 l3 =>
      (ag (Go.IntKind.wrap Go.IntKind.i64 (n2 + (16 : Int))) b5 l3)))
    none)
  (kN b4 l2))
def l_impl_CryptDisk_0 (N : Nat) {R : Type} (s5 : ByteArray) (s6 : ByteArray) (kN : Bool → (List Int) → Option R) : Nat → Int → Bool → (List Int) → Option R
  | 0, _, _, _ => none
  | f + 1, n2, b4, l2 => s_impl_CryptDisk_0 N s5 s6 n2 b4 l2 (fun n2 b4 l2 => l_impl_CryptDisk_0 N s5 s6 kN f n2 b4 l2)  kN
def c_impl_CryptDisk_0 (N : Nat) {R : Type} (s5 : ByteArray) (s6 : ByteArray) (n2 : Int) (b4 : Bool) (l2 : List Int) (kN : Bool → (List Int) → Option R) : Option R := l_impl_CryptDisk_0 N s5 s6 kN N n2 b4 l2
theorem se_impl_CryptDisk_0 (N : Nat) {R : Type} (s5 : ByteArray) (s6 : ByteArray) (n2 : Int) (b4 : Bool) (l2 : List Int) (AG : List (Option AV) → Hp E → Option R) (KL : Ex → List (Option AV) → Hp E → Option R) :
    iterStep (E := E) (O_impl_CryptDisk N) (fun {R} => LI (noIt) 0 38 sl_impl_CryptDisk (R := R)) J_impl_CryptDisk 0 38 0 [0, 1, 5, 6] [5] (body Go.Proofs.Try.f43 0) AG KL [(Option.some (Go.Eng.AV.sc (Go.Eng.SV.str s5))), (Option.some (Go.Eng.AV.sc (Go.Eng.SV.str s6))), (Option.some (Go.Eng.AV.sc (Go.Eng.SV.ptr 0 0 0))), (Option.some (Go.Eng.AV.sc (Go.Eng.SV.int Go.IntKind.i64 n2)))] [(Option.some (Go.Eng.HE.mk Bool.false (Go.Eng.HB.exp (Option.some 116) [(Go.Eng.SV.ptr 0 0 0), (Go.Eng.SV.slc 1 Option.none b4)]))), (Option.some (Go.Eng.HE.mk Bool.false (Go.Eng.HB.rows (Go.Sa.B.u8 l2))))] =
      s_impl_CryptDisk_0 N s5 s6 n2 b4 l2 (fun n2 b4 l2 => AG [(Option.some (Go.Eng.AV.sc (Go.Eng.SV.str s5))), (Option.some (Go.Eng.AV.sc (Go.Eng.SV.str s6))), (Option.some (Go.Eng.AV.sc (Go.Eng.SV.ptr 0 0 0))), (Option.some (Go.Eng.AV.sc (Go.Eng.SV.int Go.IntKind.i64 n2)))] [(Option.some (Go.Eng.HE.mk Bool.false (Go.Eng.HB.exp (Option.some 116) [(Go.Eng.SV.ptr 0 0 0), (Go.Eng.SV.slc 1 Option.none b4)]))), (Option.some (Go.Eng.HE.mk Bool.false (Go.Eng.HB.rows (Go.Sa.B.u8 l2))))])  (fun b7 l5 => KL Go.Eng.Ex.normal [(Option.some (Go.Eng.AV.sc (Go.Eng.SV.ptr 0 0 0)))] [(Option.some (Go.Eng.HE.mk Bool.false (Go.Eng.HB.exp (Option.some 116) [(Go.Eng.SV.ptr 0 0 0), (Go.Eng.SV.slc 1 Option.none b7)]))), (Option.some (Go.Eng.HE.mk Bool.false (Go.Eng.HB.rows (Go.Sa.B.u8 l5))))]) := by kernel_rfl
theorem le_impl_CryptDisk_0 (N : Nat) {R : Type} (s5 : ByteArray) (s6 : ByteArray) (KL : Ex → List (Option AV) → Hp E → Option R) : ∀ (f : Nat), ∀ (n2 : Int) (b4 : Bool) (l2 : List Int), iterK (E := E) (O_impl_CryptDisk N) (fun {R} => LI (noIt) 0 38 sl_impl_CryptDisk (R := R)) J_impl_CryptDisk 0 38 0 [0, 1, 5, 6] [5] (body Go.Proofs.Try.f43 0) f [(Option.some (Go.Eng.AV.sc (Go.Eng.SV.str s5))), (Option.some (Go.Eng.AV.sc (Go.Eng.SV.str s6))), (Option.some (Go.Eng.AV.sc (Go.Eng.SV.ptr 0 0 0))), (Option.some (Go.Eng.AV.sc (Go.Eng.SV.int Go.IntKind.i64 n2)))] [(Option.some (Go.Eng.HE.mk Bool.false (Go.Eng.HB.exp (Option.some 116) [(Go.Eng.SV.ptr 0 0 0), (Go.Eng.SV.slc 1 Option.none b4)]))), (Option.some (Go.Eng.HE.mk Bool.false (Go.Eng.HB.rows (Go.Sa.B.u8 l2))))] KL = l_impl_CryptDisk_0 N s5 s6 (fun b7 l5 => KL Go.Eng.Ex.normal [(Option.some (Go.Eng.AV.sc (Go.Eng.SV.ptr 0 0 0)))] [(Option.some (Go.Eng.HE.mk Bool.false (Go.Eng.HB.exp (Option.some 116) [(Go.Eng.SV.ptr 0 0 0), (Go.Eng.SV.slc 1 Option.none b7)]))), (Option.some (Go.Eng.HE.mk Bool.false (Go.Eng.HB.rows (Go.Sa.B.u8 l5))))]) f n2 b4 l2 := by
  intro f
  induction f with
  | zero => intros; rfl
  | succ f ih =>
    intro n2 b4 l2
    rw [iterK_succ, se_impl_CryptDisk_0]
    exact (congrArg (fun z0 => s_impl_CryptDisk_0 N s5 s6 n2 b4 l2 z0 (fun b7 l5 => KL Go.Eng.Ex.normal [(Option.some (Go.Eng.AV.sc (Go.Eng.SV.ptr 0 0 0)))] [(Option.some (Go.Eng.HE.mk Bool.false (Go.Eng.HB.exp (Option.some 116) [(Go.Eng.SV.ptr 0 0 0), (Go.Eng.SV.slc 1 Option.none b7)]))), (Option.some (Go.Eng.HE.mk Bool.false (Go.Eng.HB.rows (Go.Sa.B.u8 l5))))])) (funext fun n2 => funext fun b4 => funext fun l2 => ih n2 b4 l2))
def s_impl_CryptDisk_0b1 (N : Nat) {R : Type} (s2 : ByteArray) (s3 : ByteArray) (n : Int) (b2 : Bool) (l : List Int)  (ag1 : ByteArray → ByteArray → Int → Bool → (List Int) → Option R) (kNb1 : Option R) : Option R :=
  (cond (decide ((n < (((ByteArray.size s3) : Nat) : Int))))
  (cond (((decide (((0 : Int) ≤ n))) && (decide ((n ≤ (Go.IntKind.wrap Go.IntKind.i64 (n + (16 : Int))))))) && (decide (((Go.IntKind.wrap Go.IntKind.i64 (n + (16 : Int))) ≤ (((ByteArray.size s3) : Nat) : Int)))))
    (g_impl_Crypt N s2 (Go.IntKind.wrap Go.IntKind.i64 (Int.tdiv n (16 : Int))) (ByteArray.extract s3 (Int.toNat n) (Int.toNat (Go.IntKind.wrap Go.IntKind.i64 (n + (16 : Int))))) fun s4 =>
      (g_strings_Builder_WriteString_Ww N s4 b2 l fun n1 b3 l1 =>
      (ag1 s2 s3 (Go.IntKind.wrap Go.IntKind.i64 (n + (16 : Int))) b3 l1)))
    none)
  kNb1)
def l_impl_CryptDisk_0b1 (N : Nat) {R : Type} (s2 : ByteArray) (s3 : ByteArray) (n : Int) (b2 : Bool) (l : List Int) (kNb1 : Option R) (kN : Bool → (List Int) → Option R) : Nat → Option R
  | 0 => none
  | f + 1 => s_impl_CryptDisk_0b1 N s2 s3 n b2 l  (fun s5 s6 n2 b4 l2 => l_impl_CryptDisk_0 N s5 s6 kN f n2 b4 l2) kNb1
def c_impl_CryptDisk_0b1 (N : Nat) {R : Type} (s2 : ByteArray) (s3 : ByteArray) (n : Int) (b2 : Bool) (l : List Int)  (kNb1 : Option R) (kN : Bool → (List Int) → Option R) : Option R := l_impl_CryptDisk_0b1 N s2 s3 n b2 l kNb1 kN N 
theorem se_impl_CryptDisk_0b1 (N : Nat) {R : Type} (s2 : ByteArray) (s3 : ByteArray) (n : Int) (b2 : Bool) (l : List Int)  (AG : List (Option AV) → Hp E → Option R) (KL : Ex → List (Option AV) → Hp E → Option R) :
    iterStep (E := E) (O_impl_CryptDisk N) (fun {R} => LI (noIt) 0 38 sl_impl_CryptDisk (R := R)) J_impl_CryptDisk 0 38 0 [0, 1, 5, 6] [5] (body Go.Proofs.Try.f43 0) AG KL [(Option.some (Go.Eng.AV.sc (Go.Eng.SV.str s2))), (Option.some (Go.Eng.AV.sc (Go.Eng.SV.str s3))), (Option.some (Go.Eng.AV.sc (Go.Eng.SV.ptr 0 0 0))), (Option.some (Go.Eng.AV.sc (Go.Eng.SV.int Go.IntKind.i64 n)))] [(Option.some (Go.Eng.HE.mk Bool.false (Go.Eng.HB.exp (Option.some 116) [Go.Eng.SV.nilp, (Go.Eng.SV.slc 1 Option.none b2)]))), (Option.some (Go.Eng.HE.mk Bool.false (Go.Eng.HB.rows (Go.Sa.B.u8 l))))] =
      s_impl_CryptDisk_0b1 N s2 s3 n b2 l  (fun s5 s6 n2 b4 l2 => AG [(Option.some (Go.Eng.AV.sc (Go.Eng.SV.str s5))), (Option.some (Go.Eng.AV.sc (Go.Eng.SV.str s6))), (Option.some (Go.Eng.AV.sc (Go.Eng.SV.ptr 0 0 0))), (Option.some (Go.Eng.AV.sc (Go.Eng.SV.int Go.IntKind.i64 n2)))] [(Option.some (Go.Eng.HE.mk Bool.false (Go.Eng.HB.exp (Option.some 116) [(Go.Eng.SV.ptr 0 0 0), (Go.Eng.SV.slc 1 Option.none b4)]))), (Option.some (Go.Eng.HE.mk Bool.false (Go.Eng.HB.rows (Go.Sa.B.u8 l2))))]) (KL Go.Eng.Ex.normal [(Option.some (Go.Eng.AV.sc (Go.Eng.SV.ptr 0 0 0)))] [(Option.some (Go.Eng.HE.mk Bool.false (Go.Eng.HB.exp (Option.some 116) [Go.Eng.SV.nilp, (Go.Eng.SV.slc 1 Option.none b2)]))), (Option.some (Go.Eng.HE.mk Bool.false (Go.Eng.HB.rows (Go.Sa.B.u8 l))))]) := by kernel_rfl
theorem le_impl_CryptDisk_0b1 (N : Nat) {R : Type} (s2 : ByteArray) (s3 : ByteArray) (n : Int) (b2 : Bool) (l : List Int) (KL : Ex → List (Option AV) → Hp E → Option R) : ∀ (f : Nat), iterK (E := E) (O_impl_CryptDisk N) (fun {R} => LI (noIt) 0 38 sl_impl_CryptDisk (R := R)) J_impl_CryptDisk 0 38 0 [0, 1, 5, 6] [5] (body Go.Proofs.Try.f43 0) f [(Option.some (Go.Eng.AV.sc (Go.Eng.SV.str s2))), (Option.some (Go.Eng.AV.sc (Go.Eng.SV.str s3))), (Option.some (Go.Eng.AV.sc (Go.Eng.SV.ptr 0 0 0))), (Option.some (Go.Eng.AV.sc (Go.Eng.SV.int Go.IntKind.i64 n)))] [(Option.some (Go.Eng.HE.mk Bool.false (Go.Eng.HB.exp (Option.some 116) [Go.Eng.SV.nilp, (Go.Eng.SV.slc 1 Option.none b2)]))), (Option.some (Go.Eng.HE.mk Bool.false (Go.Eng.HB.rows (Go.Sa.B.u8 l))))] KL = l_impl_CryptDisk_0b1 N s2 s3 n b2 l (KL Go.Eng.Ex.normal [(Option.some (Go.Eng.AV.sc (Go.Eng.SV.ptr 0 0 0)))] [(Option.some (Go.Eng.HE.mk Bool.false (Go.Eng.HB.exp (Option.some 116) [Go.Eng.SV.nilp, (Go.Eng.SV.slc 1 Option.none b2)]))), (Option.some (Go.Eng.HE.mk Bool.false (Go.Eng.HB.rows (Go.Sa.B.u8 l))))]) (fun b8 l6 => KL Go.Eng.Ex.normal [(Option.some (Go.Eng.AV.sc (Go.Eng.SV.ptr 0 0 0)))] [(Option.some (Go.Eng.HE.mk Bool.false (Go.Eng.HB.exp (Option.some 116) [(Go.Eng.SV.ptr 0 0 0), (Go.Eng.SV.slc 1 Option.none b8)]))), (Option.some (Go.Eng.HE.mk Bool.false (Go.Eng.HB.rows (Go.Sa.B.u8 l6))))]) f  := by
  intro f
  induction f with
  | zero => intros; rfl
  | succ f ih =>
    rw [iterK_succ, se_impl_CryptDisk_0b1]
    exact (congrArg (fun z0 => s_impl_CryptDisk_0b1 N s2 s3 n b2 l  z0 (KL Go.Eng.Ex.normal [(Option.some (Go.Eng.AV.sc (Go.Eng.SV.ptr 0 0 0)))] [(Option.some (Go.Eng.HE.mk Bool.false (Go.Eng.HB.exp (Option.some 116) [Go.Eng.SV.nilp, (Go.Eng.SV.slc 1 Option.none b2)]))), (Option.some (Go.Eng.HE.mk Bool.false (Go.Eng.HB.rows (Go.Sa.B.u8 l))))])) (funext fun s5 => funext fun s6 => funext fun n2 => funext fun b4 => funext fun l2 => le_impl_CryptDisk_0 N s5 s6 KL f n2 b4 l2))
def i_impl_CryptDisk_0 (N : Nat) {R : Type} (vs : List (Option AV)) (H : Hp E) (KL : Ex → List (Option AV) → Hp E → Option R) : Option R :=
  match vs, H with
  | [(Option.some (Go.Eng.AV.sc (Go.Eng.SV.str s2))), (Option.some (Go.Eng.AV.sc (Go.Eng.SV.str s3))), (Option.some (Go.Eng.AV.sc (Go.Eng.SV.ptr 0 0 0))), (Option.some (Go.Eng.AV.sc (Go.Eng.SV.int Go.IntKind.i64 n)))], [(Option.some (Go.Eng.HE.mk Bool.false (Go.Eng.HB.exp (Option.some 116) [Go.Eng.SV.nilp, (Go.Eng.SV.slc 1 Option.none b2)]))), (Option.some (Go.Eng.HE.mk Bool.false (Go.Eng.HB.rows (Go.Sa.B.u8 l))))] => c_impl_CryptDisk_0b1 N s2 s3 n b2 l  (KL Go.Eng.Ex.normal [(Option.some (Go.Eng.AV.sc (Go.Eng.SV.ptr 0 0 0)))] [(Option.some (Go.Eng.HE.mk Bool.false (Go.Eng.HB.exp (Option.some 116) [Go.Eng.SV.nilp, (Go.Eng.SV.slc 1 Option.none b2)]))), (Option.some (Go.Eng.HE.mk Bool.false (Go.Eng.HB.rows (Go.Sa.B.u8 l))))]) (fun b9 l7 => KL Go.Eng.Ex.normal [(Option.some (Go.Eng.AV.sc (Go.Eng.SV.ptr 0 0 0)))] [(Option.some (Go.Eng.HE.mk Bool.false (Go.Eng.HB.exp (Option.some 116) [(Go.Eng.SV.ptr 0 0 0), (Go.Eng.SV.slc 1 Option.none b9)]))), (Option.some (Go.Eng.HE.mk Bool.false (Go.Eng.HB.rows (Go.Sa.B.u8 l7))))])
  | _, _ => none
noncomputable def IT_impl_CryptDisk_0 (N : Nat) : Its E := addIt 0 (i_impl_CryptDisk_0 N) (noIt)
theorem IT_impl_CryptDisk_0_ok (N : Nat) : ItOk (IT_impl_CryptDisk_0 N) 0 38 sl_impl_CryptDisk (lsB Go.Proofs.Try.f43 [0]) :=
  addItB_ok (inner := []) ok (O_impl_CryptDisk_ok N) (jn_ok _ _ _) (noIt_ok) rfl (by kernel_rfl) rfl fun vs H KL r h => by
    unfold i_impl_CryptDisk_0 at h
    split at h
    · exact ⟨_, (le_impl_CryptDisk_0b1 N _ _ _ _ _ KL N).trans h⟩
    · cases h
def g_impl_CryptDisk (N : Nat) {R : Type} (s : ByteArray) (s1 : ByteArray) (k : ByteArray → Option R) : Option R :=
  (oK (g_impl_ylongKey_w N Bool.false [s] fun b =>
    (cond b
    (some Bool.true)
    (g_impl_ybig_w N Bool.false [s1] fun b1 =>
      (cond b1
      (some Bool.true)
      (some ((Int.tmod (((ByteArray.size s1) : Nat) : Int) (16 : Int)) != (0 : Int))))))) fun j =>
  (cond j
  (k (ByteArray.mk (List.toArray [])))
  (c_impl_CryptDisk_0b1 N s s1 (0 : Int) Bool.true [] (
    (k (ByteArray.mk (List.toArray [])))) (fun b6 l4 =>
    (cond b6
    (k (ByteArray.mk (List.toArray [])))
    (cond ((Nat.blt 0 (List.length l4)) && (Nat.ble (List.length l4) 9223372036854775807))
      (k (Go.Eng.toBytes l4))
      none))))))
theorem e_impl_CryptDisk (N : Nat) {R : Type} (s : ByteArray) (s1 : ByteArray) (K : AV → Hp E → Option R) :
    runFnI (E := E) (O_impl_CryptDisk N) (IT_impl_CryptDisk_0 N) sl_impl_CryptDisk J_impl_CryptDisk Go.Proofs.Try.f43 [(Go.Eng.AV.sc (Go.Eng.SV.str s)), (Go.Eng.AV.sc (Go.Eng.SV.str s1))] [] K =
      g_impl_CryptDisk N s s1 (fun s8 => K (Go.Eng.AV.sc (Go.Eng.SV.str s8)) []) := by kernel_rfl
def o_impl_CryptDisk (N : Nat) {R : Type} (args : List AV) (H : Hp E) (K : AV → Hp E → Option R) : Option R :=
  match args, H with
  | [(Go.Eng.AV.sc (Go.Eng.SV.str s)), (Go.Eng.AV.sc (Go.Eng.SV.str s1))], [] => g_impl_CryptDisk N s s1 (fun s8 => K (Go.Eng.AV.sc (Go.Eng.SV.str s8)) [])
  | _, _ => none
theorem o_impl_CryptDisk_ok (N : Nat) : FnOk E 43 (o_impl_CryptDisk N) := by
  intro R args H K r h
  unfold o_impl_CryptDisk at h
  dsimp only at h
  split at h
  · exact fnB_ok (ids := [0]) (top := [0]) ok (O_impl_CryptDisk_ok N) (jn_ok _ _ _) Go.Proofs.Try.func43 (by kernel_rfl) (IT := IT_impl_CryptDisk_0 N) (sl := sl_impl_CryptDisk) (J := J_impl_CryptDisk) (K := K) (H := []) (IT_impl_CryptDisk_0_ok N) (by kernel_rfl) rfl ((e_impl_CryptDisk N _ _ K).trans h)
  · cases h
/-! ### loop.example/g00038/spec.CryptDisk -/
abbrev sl_spec_CryptDisk : SlotT := [(0, ([0, 1, 5, 6], [5]))]
abbrev J_spec_CryptDisk : JT := jn [(1, [(20, .b)])] [] []
noncomputable def O_spec_CryptDisk (N : Nat) : Orc E := addFn 41 (o_spec_Crypt N) (noFn)
theorem O_spec_CryptDisk_ok (N : Nat) : OrcOk (O_spec_CryptDisk N) := addFn_ok (o_spec_Crypt_ok N) (noFn_ok)
def s_spec_CryptDisk_0 (N : Nat) {R : Type} (s2 : ByteArray) (s3 : ByteArray) (s4 : ByteArray) (n : Int) (ag : ByteArray → Int → Option R)  (kN : ByteArray → Option R) : Option R :=
  (cond (decide (((Go.IntKind.wrap Go.IntKind.i64 (n * (16 : Int))) < (((ByteArray.size s3) : Nat) : Int))))
  (cond (((decide (((0 : Int) ≤ (Go.IntKind.wrap Go.IntKind.i64 (n * (16 : Int)))))) && (decide (((Go.IntKind.wrap Go.IntKind.i64 (n * (16 : Int))) ≤ (Go.IntKind.wrap Go.IntKind.i64 ((Go.IntKind.wrap Go.IntKind.i64 (n + (1 : Int))) * (16 : Int))))))) && (decide (((Go.IntKind.wrap Go.IntKind.i64 ((Go.IntKind.wrap Go.IntKind.i64 (n + (1 : Int))) * (16 : Int))) ≤ (((ByteArray.size s3) : Nat) : Int)))))
    (g_spec_Crypt N s2 n (ByteArray.extract s3 (Int.toNat (Go.IntKind.wrap Go.IntKind.i64 (n * (16 : Int)))) (Int.toNat (Go.IntKind.wrap Go.IntKind.i64 ((Go.IntKind.wrap Go.IntKind.i64 (n + (1 : Int))) * (16 : Int))))) fun s5 =>
      (cond (Nat.ble ((ByteArray.size s4) + (ByteArray.size s5)) 9223372036854775807)
      (ag (s4 ++ s5) (Go.IntKind.wrap Go.IntKind.i64 (n + (1 : Int))))
      none))
    none)
  (kN s4))
def l_spec_CryptDisk_0 (N : Nat) {R : Type} (s2 : ByteArray) (s3 : ByteArray) (kN : ByteArray → Option R) : Nat → ByteArray → Int → Option R
  | 0, _, _ => none
  | f + 1, s4, n => s_spec_CryptDisk_0 N s2 s3 s4 n (fun s4 n => l_spec_CryptDisk_0 N s2 s3 kN f s4 n)  kN
def c_spec_CryptDisk_0 (N : Nat) {R : Type} (s2 : ByteArray) (s3 : ByteArray) (s4 : ByteArray) (n : Int) (kN : ByteArray → Option R) : Option R := l_spec_CryptDisk_0 N s2 s3 kN N s4 n
theorem se_spec_CryptDisk_0 (N : Nat) {R : Type} (s2 : ByteArray) (s3 : ByteArray) (s4 : ByteArray) (n : Int) (AG : List (Option AV) → Hp E → Option R) (KL : Ex → List (Option AV) → Hp E → Option R) :
    iterStep (E := E) (O_spec_CryptDisk N) (fun {R} => LI (noIt) 0 41 sl_spec_CryptDisk (R := R)) J_spec_CryptDisk 0 41 0 [0, 1, 5, 6] [5] (body Go.Proofs.Try.f44 0) AG KL [(Option.some (Go.Eng.AV.sc (Go.Eng.SV.str s2))), (Option.some (Go.Eng.AV.sc (Go.Eng.SV.str s3))), (Option.some (Go.Eng.AV.sc (Go.Eng.SV.str s4))), (Option.some (Go.Eng.AV.sc (Go.Eng.SV.int Go.IntKind.i64 n)))] [] =
      s_spec_CryptDisk_0 N s2 s3 s4 n (fun s4 n => AG [(Option.some (Go.Eng.AV.sc (Go.Eng.SV.str s2))), (Option.some (Go.Eng.AV.sc (Go.Eng.SV.str s3))), (Option.some (Go.Eng.AV.sc (Go.Eng.SV.str s4))), (Option.some (Go.Eng.AV.sc (Go.Eng.SV.int Go.IntKind.i64 n)))] [])  (fun s8 => KL Go.Eng.Ex.normal [(Option.some (Go.Eng.AV.sc (Go.Eng.SV.str s8)))] []) := by kernel_rfl
theorem le_spec_CryptDisk_0 (N : Nat) {R : Type} (s2 : ByteArray) (s3 : ByteArray) (KL : Ex → List (Option AV) → Hp E → Option R) : ∀ (f : Nat), ∀ (s4 : ByteArray) (n : Int), iterK (E := E) (O_spec_CryptDisk N) (fun {R} => LI (noIt) 0 41 sl_spec_CryptDisk (R := R)) J_spec_CryptDisk 0 41 0 [0, 1, 5, 6] [5] (body Go.Proofs.Try.f44 0) f [(Option.some (Go.Eng.AV.sc (Go.Eng.SV.str s2))), (Option.some (Go.Eng.AV.sc (Go.Eng.SV.str s3))), (Option.some (Go.Eng.AV.sc (Go.Eng.SV.str s4))), (Option.some (Go.Eng.AV.sc (Go.Eng.SV.int Go.IntKind.i64 n)))] [] KL = l_spec_CryptDisk_0 N s2 s3 (fun s8 => KL Go.Eng.Ex.normal [(Option.some (Go.Eng.AV.sc (Go.Eng.SV.str s8)))] []) f s4 n := by
  intro f
  induction f with
  | zero => intros; rfl
  | succ f ih =>
    intro s4 n
    rw [iterK_succ, se_spec_CryptDisk_0]
    exact (congrArg (fun z0 => s_spec_CryptDisk_0 N s2 s3 s4 n z0 (fun s8 => KL Go.Eng.Ex.normal [(Option.some (Go.Eng.AV.sc (Go.Eng.SV.str s8)))] [])) (funext fun s4 => funext fun n => ih s4 n))
def i_spec_CryptDisk_0 (N : Nat) {R : Type} (vs : List (Option AV)) (H : Hp E) (KL : Ex → List (Option AV) → Hp E → Option R) : Option R :=
  match vs, H with
  | [(Option.some (Go.Eng.AV.sc (Go.Eng.SV.str s2))), (Option.some (Go.Eng.AV.sc (Go.Eng.SV.str s3))), (Option.some (Go.Eng.AV.sc (Go.Eng.SV.str s4))), (Option.some (Go.Eng.AV.sc (Go.Eng.SV.int Go.IntKind.i64 n)))], [] => c_spec_CryptDisk_0 N s2 s3 s4 n (fun s9 => KL Go.Eng.Ex.normal [(Option.some (Go.Eng.AV.sc (Go.Eng.SV.str s9)))] [])
  | _, _ => none
noncomputable def IT_spec_CryptDisk_0 (N : Nat) : Its E := addIt 0 (i_spec_CryptDisk_0 N) (noIt)
theorem IT_spec_CryptDisk_0_ok (N : Nat) : ItOk (IT_spec_CryptDisk_0 N) 0 41 sl_spec_CryptDisk (lsB Go.Proofs.Try.f44 [0]) :=
  addItB_ok (inner := []) ok (O_spec_CryptDisk_ok N) (jn_ok _ _ _) (noIt_ok) rfl (by kernel_rfl) rfl fun vs H KL r h => by
    unfold i_spec_CryptDisk_0 at h
    split at h
    · exact ⟨_, (le_spec_CryptDisk_0 N _ _ KL N _ _).trans h⟩
    · cases h
def g_spec_CryptDisk (N : Nat) {R : Type} (s : ByteArray) (s1 : ByteArray) (k : ByteArray → Option R) : Option R :=
  (oK (cond (decide (((((ByteArray.size s) : Nat) : Int) > (4096 : Int))))
    (some Bool.true)
    (cond (decide (((((ByteArray.size s1) : Nat) : Int) > (65536 : Int))))
      (some Bool.true)
      (some ((Int.tmod (((ByteArray.size s1) : Nat) : Int) (16 : Int)) != (0 : Int))))) fun j =>
  (cond j
  (k (ByteArray.mk (List.toArray [])))
  (c_spec_CryptDisk_0 N s s1 (ByteArray.mk (List.toArray [])) (0 : Int) fun s6 =>
    (k s6))))
theorem e_spec_CryptDisk (N : Nat) {R : Type} (s : ByteArray) (s1 : ByteArray) (K : AV → Hp E → Option R) :
    runFnI (E := E) (O_spec_CryptDisk N) (IT_spec_CryptDisk_0 N) sl_spec_CryptDisk J_spec_CryptDisk Go.Proofs.Try.f44 [(Go.Eng.AV.sc (Go.Eng.SV.str s)), (Go.Eng.AV.sc (Go.Eng.SV.str s1))] [] K =
      g_spec_CryptDisk N s s1 (fun s7 => K (Go.Eng.AV.sc (Go.Eng.SV.str s7)) []) := by kernel_rfl
def o_spec_CryptDisk (N : Nat) {R : Type} (args : List AV) (H : Hp E) (K : AV → Hp E → Option R) : Option R :=
  match args, H with
  | [(Go.Eng.AV.sc (Go.Eng.SV.str s)), (Go.Eng.AV.sc (Go.Eng.SV.str s1))], [] => g_spec_CryptDisk N s s1 (fun s7 => K (Go.Eng.AV.sc (Go.Eng.SV.str s7)) [])
  | _, _ => none
theorem o_spec_CryptDisk_ok (N : Nat) : FnOk E 44 (o_spec_CryptDisk N) := by
  intro R args H K r h
  unfold o_spec_CryptDisk at h
  dsimp only at h
  split at h
  · exact fnB_ok (ids := [0]) (top := [0]) ok (O_spec_CryptDisk_ok N) (jn_ok _ _ _) Go.Proofs.Try.func44 (by kernel_rfl) (IT := IT_spec_CryptDisk_0 N) (sl := sl_spec_CryptDisk) (J := J_spec_CryptDisk) (K := K) (H := []) (IT_spec_CryptDisk_0_ok N) (by kernel_rfl) rfl ((e_spec_CryptDisk N _ _ K).trans h)
  · cases h
end Go.Sa
