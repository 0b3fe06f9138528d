import Derived.Test.YtnopbegjbbbdhaaSpec
import Derived.Test.YtnopbegjbbbdhaaPLb
import Derived.Test.YtnopbegjbbbdhaaW7
set_option linter.all false
namespace Go.Sa
open Go Go.Eng Go.Proofs
set_option maxRecDepth 100000
/-! ### loop.example/g00038/impl.TablesOf -/
abbrev sl_impl_TablesOf_w : SlotT := [(0, ([1, 3, 10, 11, 12], [1, 3]))]
abbrev J_impl_TablesOf_w : JT := jn [] [] []
noncomputable def O_impl_TablesOf_w (N : Nat) : Orc E := addFn 106 (o_impl_PutWord N) (addFn 112 (o_impl_BoardFault_w N) (noFn))
def pa_impl_TablesOf_w__o_impl_PutWord (N : Nat) (G_impl_PutWord : ∀ {R : Type} (n : Int) (k : ByteArray → Option R), Option R) (G_impl_BoardFault_w : ∀ {R : Type} (n : Int) (n1 : Int) (b : Bool) (l : List Go.Sa.Device) (k : Int → Option R), Option R) {R : Type} (args : List AV) (H : Hp E) (K : AV → Hp E → Option R) : Option R :=
  match args, H with
  | [(Go.Eng.AV.sc (Go.Eng.SV.int Go.IntKind.i64 n))], [] => G_impl_PutWord n (fun s => K (Go.Eng.AV.sc (Go.Eng.SV.str s)) [])
  | _, _ => none
def pa_impl_TablesOf_w__o_impl_BoardFault_w (N : Nat) (G_impl_PutWord : ∀ {R : Type} (n : Int) (k : ByteArray → Option R), Option R) (G_impl_BoardFault_w : ∀ {R : Type} (n : Int) (n1 : Int) (b : Bool) (l : List Go.Sa.Device) (k : Int → Option R), Option R) {R : Type} (args : List AV) (H : Hp E) (K : AV → Hp E → Option R) : Option R :=
  match args, H with
  | [(Go.Eng.AV.agg [(Go.Eng.SV.int Go.IntKind.i64 n), (Go.Eng.SV.int Go.IntKind.i64 n1), (Go.Eng.SV.slc 0 Option.none b)])], [(Option.some (Go.Eng.HE.mk Bool.false (Go.Eng.HB.rows (Go.Sa.B.iDevice l))))] => G_impl_BoardFault_w n n1 b l (fun n6 => K (Go.Eng.AV.sc (Go.Eng.SV.int Go.IntKind.i64 n6)) [(Option.some (Go.Eng.HE.mk Bool.false (Go.Eng.HB.rows (Go.Sa.B.iDevice l))))])
  | _, _ => none
noncomputable def OA_impl_TablesOf_w (N : Nat) (G_impl_PutWord : ∀ {R : Type} (n : Int) (k : ByteArray → Option R), Option R) (G_impl_BoardFault_w : ∀ {R : Type} (n : Int) (n1 : Int) (b : Bool) (l : List Go.Sa.Device) (k : Int → Option R), Option R) : Orc E := addFn 106 (pa_impl_TablesOf_w__o_impl_PutWord N G_impl_PutWord G_impl_BoardFault_w) (addFn 112 (pa_impl_TablesOf_w__o_impl_BoardFault_w N G_impl_PutWord G_impl_BoardFault_w) (noFn))
theorem O_impl_TablesOf_w_ok (N : Nat) : OrcOk (O_impl_TablesOf_w N) := addFn_ok (o_impl_PutWord_ok N) (addFn_ok (o_impl_BoardFault_w_ok N) (noFn_ok))
def s_impl_TablesOf_w_0 (N : Nat) {R : Type} (b1 : Bool) (n3 : Int) (l1 : List Go.Sa.Device) (n5 : Int) (n6 : Int) (b2 : Bool) (s : ByteArray) (n4 : Int) (ag : ByteArray → Int → Option R)  (kN : ByteArray → Option R) : Option R :=
  (cond (decide ((n4 < n3)))
  (cond ((decide (((0 : Int) ≤ n4))) && (decide ((n4 < (((List.length l1) : Nat) : Int)))))
    (elemK l1 (Int.toNat n4) fun x =>
      (g_impl_PutWord N (Go.IntKind.wrap Go.IntKind.i64 ((Go.IntKind.wrap Go.IntKind.i64 ((Go.IntKind.wrap Go.IntKind.i64 ((Go.Sa.Device.fKind x) * (16777216 : Int))) + (Go.IntKind.wrap Go.IntKind.i64 ((Go.Sa.Device.fLine x) * (65536 : Int))))) + (Go.Sa.Device.fPort x))) fun s1 =>
      (cond (Nat.ble ((ByteArray.size s) + (ByteArray.size s1)) 9223372036854775807)
      (ag (s ++ s1) (Go.IntKind.wrap Go.IntKind.i64 (n4 + (1 : Int))))
      none)))
    none)
  (kN s))
def ga_s_impl_TablesOf_w_0 (N : Nat) (G_impl_PutWord : ∀ {R : Type} (n : Int) (k : ByteArray → Option R), Option R) (G_impl_BoardFault_w : ∀ {R : Type} (n : Int) (n1 : Int) (b : Bool) (l : List Go.Sa.Device) (k : Int → Option R), Option R) {R : Type} (b1 : Bool) (n3 : Int) (l1 : List Go.Sa.Device) (n5 : Int) (n6 : Int) (b2 : Bool) (s : ByteArray) (n4 : Int) (ag : ByteArray → Int → Option R)  (kN : ByteArray → Option R) : Option R :=
  (cond (decide ((n4 < n3)))
  (cond ((decide (((0 : Int) ≤ n4))) && (decide ((n4 < (((List.length l1) : Nat) : Int)))))
    (elemK l1 (Int.toNat n4) fun x =>
      (G_impl_PutWord (Go.IntKind.wrap Go.IntKind.i64 ((Go.IntKind.wrap Go.IntKind.i64 ((Go.IntKind.wrap Go.IntKind.i64 ((Go.Sa.Device.fKind x) * (16777216 : Int))) + (Go.IntKind.wrap Go.IntKind.i64 ((Go.Sa.Device.fLine x) * (65536 : Int))))) + (Go.Sa.Device.fPort x))) fun s1 =>
      (cond (Nat.ble ((ByteArray.size s) + (ByteArray.size s1)) 9223372036854775807)
      (ag (s ++ s1) (Go.IntKind.wrap Go.IntKind.i64 (n4 + (1 : Int))))
      none)))
    none)
  (kN s))
def l_impl_TablesOf_w_0 (N : Nat) {R : Type} (b1 : Bool) (n3 : Int) (l1 : List Go.Sa.Device) (n5 : Int) (n6 : Int) (b2 : Bool) (kN : ByteArray → Option R) : Nat → ByteArray → Int → Option R
  | 0, _, _ => none
  | f + 1, s, n4 => s_impl_TablesOf_w_0 N b1 n3 l1 n5 n6 b2 s n4 (fun s n4 => l_impl_TablesOf_w_0 N b1 n3 l1 n5 n6 b2 kN f s n4)  kN
def c_impl_TablesOf_w_0 (N : Nat) {R : Type} (b1 : Bool) (n3 : Int) (l1 : List Go.Sa.Device) (n5 : Int) (n6 : Int) (b2 : Bool) (s : ByteArray) (n4 : Int) (kN : ByteArray → Option R) : Option R := l_impl_TablesOf_w_0 N b1 n3 l1 n5 n6 b2 kN N s n4
theorem ea_se_impl_TablesOf_w_0 (N : Nat) (G_impl_PutWord : ∀ {R : Type} (n : Int) (k : ByteArray → Option R), Option R) (G_impl_BoardFault_w : ∀ {R : Type} (n : Int) (n1 : Int) (b : Bool) (l : List Go.Sa.Device) (k : Int → Option R), Option R) {R : Type} (b1 : Bool) (n3 : Int) (l1 : List Go.Sa.Device) (n5 : Int) (n6 : Int) (b2 : Bool) (s : ByteArray) (n4 : Int) (AG : List (Option AV) → Hp E → Option R) (KL : Ex → List (Option AV) → Hp E → Option R) :
    iterStep (E := E) (OA_impl_TablesOf_w N G_impl_PutWord G_impl_BoardFault_w) (fun {R} => LI (noIt) 1 41 sl_impl_TablesOf_w (R := R)) J_impl_TablesOf_w 1 41 0 [1, 3, 10, 11, 12] [1, 3] (body Go.Proofs.Try.f44 0) AG KL [(Option.some (Go.Eng.AV.sc (Go.Eng.SV.ptr 1 0 0))), (Option.some (Go.Eng.AV.sc (Go.Eng.SV.str s))), (Option.some (Go.Eng.AV.sc (Go.Eng.SV.slc 0 Option.none b1))), (Option.some (Go.Eng.AV.sc (Go.Eng.SV.int Go.IntKind.i64 n3))), (Option.some (Go.Eng.AV.sc (Go.Eng.SV.int Go.IntKind.i64 n4)))] [(Option.some (Go.Eng.HE.mk Bool.false (Go.Eng.HB.rows (Go.Sa.B.iDevice l1)))), (Option.some (Go.Eng.HE.mk Bool.false (Go.Eng.HB.exp Option.none [(Go.Eng.SV.int Go.IntKind.i64 n5), (Go.Eng.SV.int Go.IntKind.i64 n6), (Go.Eng.SV.slc 0 Option.none b2)])))] =
      ga_s_impl_TablesOf_w_0 N G_impl_PutWord G_impl_BoardFault_w b1 n3 l1 n5 n6 b2 s n4 (fun s n4 => AG [(Option.some (Go.Eng.AV.sc (Go.Eng.SV.ptr 1 0 0))), (Option.some (Go.Eng.AV.sc (Go.Eng.SV.str s))), (Option.some (Go.Eng.AV.sc (Go.Eng.SV.slc 0 Option.none b1))), (Option.some (Go.Eng.AV.sc (Go.Eng.SV.int Go.IntKind.i64 n3))), (Option.some (Go.Eng.AV.sc (Go.Eng.SV.int Go.IntKind.i64 n4)))] [(Option.some (Go.Eng.HE.mk Bool.false (Go.Eng.HB.rows (Go.Sa.B.iDevice l1)))), (Option.some (Go.Eng.HE.mk Bool.false (Go.Eng.HB.exp Option.none [(Go.Eng.SV.int Go.IntKind.i64 n5), (Go.Eng.SV.int Go.IntKind.i64 n6), (Go.Eng.SV.slc 0 Option.none b2)])))])  (fun s5 => KL Go.Eng.Ex.normal [(Option.some (Go.Eng.AV.sc (Go.Eng.SV.ptr 1 0 0))), (Option.some (Go.Eng.AV.sc (Go.Eng.SV.str s5)))] [(Option.some (Go.Eng.HE.mk Bool.false (Go.Eng.HB.rows (Go.Sa.B.iDevice l1)))), (Option.some (Go.Eng.HE.mk Bool.false (Go.Eng.HB.exp Option.none [(Go.Eng.SV.int Go.IntKind.i64 n5), (Go.Eng.SV.int Go.IntKind.i64 n6), (Go.Eng.SV.slc 0 Option.none b2)])))]) := by kernel_rfl
theorem se_impl_TablesOf_w_0 (N : Nat) {R : Type} (b1 : Bool) (n3 : Int) (l1 : List Go.Sa.Device) (n5 : Int) (n6 : Int) (b2 : Bool) (s : ByteArray) (n4 : Int) (AG : List (Option AV) → Hp E → Option R) (KL : Ex → List (Option AV) → Hp E → Option R) :
    iterStep (E := E) (O_impl_TablesOf_w N) (fun {R} => LI (noIt) 1 41 sl_impl_TablesOf_w (R := R)) J_impl_TablesOf_w 1 41 0 [1, 3, 10, 11, 12] [1, 3] (body Go.Proofs.Try.f44 0) AG KL [(Option.some (Go.Eng.AV.sc (Go.Eng.SV.ptr 1 0 0))), (Option.some (Go.Eng.AV.sc (Go.Eng.SV.str s))), (Option.some (Go.Eng.AV.sc (Go.Eng.SV.slc 0 Option.none b1))), (Option.some (Go.Eng.AV.sc (Go.Eng.SV.int Go.IntKind.i64 n3))), (Option.some (Go.Eng.AV.sc (Go.Eng.SV.int Go.IntKind.i64 n4)))] [(Option.some (Go.Eng.HE.mk Bool.false (Go.Eng.HB.rows (Go.Sa.B.iDevice l1)))), (Option.some (Go.Eng.HE.mk Bool.false (Go.Eng.HB.exp Option.none [(Go.Eng.SV.int Go.IntKind.i64 n5), (Go.Eng.SV.int Go.IntKind.i64 n6), (Go.Eng.SV.slc 0 Option.none b2)])))] =
      s_impl_TablesOf_w_0 N b1 n3 l1 n5 n6 b2 s n4 (fun s n4 => AG [(Option.some (Go.Eng.AV.sc (Go.Eng.SV.ptr 1 0 0))), (Option.some (Go.Eng.AV.sc (Go.Eng.SV.str s))), (Option.some (Go.Eng.AV.sc (Go.Eng.SV.slc 0 Option.none b1))), (Option.some (Go.Eng.AV.sc (Go.Eng.SV.int Go.IntKind.i64 n3))), (Option.some (Go.Eng.AV.sc (Go.Eng.SV.int Go.IntKind.i64 n4)))] [(Option.some (Go.Eng.HE.mk Bool.false (Go.Eng.HB.rows (Go.Sa.B.iDevice l1)))), (Option.some (Go.Eng.HE.mk Bool.false (Go.Eng.HB.exp Option.none [(Go.Eng.SV.int Go.IntKind.i64 n5), (Go.Eng.SV.int Go.IntKind.i64 n6), (Go.Eng.SV.slc 0 Option.none b2)])))])  (fun s5 => KL Go.Eng.Ex.normal [(Option.some (Go.Eng.AV.sc (Go.Eng.SV.ptr 1 0 0))), (Option.some (Go.Eng.AV.sc (Go.Eng.SV.str s5)))] [(Option.some (Go.Eng.HE.mk Bool.false (Go.Eng.HB.rows (Go.Sa.B.iDevice l1)))), (Option.some (Go.Eng.HE.mk Bool.false (Go.Eng.HB.exp Option.none [(Go.Eng.SV.int Go.IntKind.i64 n5), (Go.Eng.SV.int Go.IntKind.i64 n6), (Go.Eng.SV.slc 0 Option.none b2)])))]) := castPr (by kernel_rfl) (ea_se_impl_TablesOf_w_0 N (g_impl_PutWord N) (g_impl_BoardFault_w N) b1 n3 l1 n5 n6 b2 s n4 AG KL)
theorem le_impl_TablesOf_w_0 (N : Nat) {R : Type} (b1 : Bool) (n3 : Int) (l1 : List Go.Sa.Device) (n5 : Int) (n6 : Int) (b2 : Bool) (KL : Ex → List (Option AV) → Hp E → Option R) : ∀ (f : Nat), ∀ (s : ByteArray) (n4 : Int), iterK (E := E) (O_impl_TablesOf_w N) (fun {R} => LI (noIt) 1 41 sl_impl_TablesOf_w (R := R)) J_impl_TablesOf_w 1 41 0 [1, 3, 10, 11, 12] [1, 3] (body Go.Proofs.Try.f44 0) f [(Option.some (Go.Eng.AV.sc (Go.Eng.SV.ptr 1 0 0))), (Option.some (Go.Eng.AV.sc (Go.Eng.SV.str s))), (Option.some (Go.Eng.AV.sc (Go.Eng.SV.slc 0 Option.none b1))), (Option.some (Go.Eng.AV.sc (Go.Eng.SV.int Go.IntKind.i64 n3))), (Option.some (Go.Eng.AV.sc (Go.Eng.SV.int Go.IntKind.i64 n4)))] [(Option.some (Go.Eng.HE.mk Bool.false (Go.Eng.HB.rows (Go.Sa.B.iDevice l1)))), (Option.some (Go.Eng.HE.mk Bool.false (Go.Eng.HB.exp Option.none [(Go.Eng.SV.int Go.IntKind.i64 n5), (Go.Eng.SV.int Go.IntKind.i64 n6), (Go.Eng.SV.slc 0 Option.none b2)])))] KL = l_impl_TablesOf_w_0 N b1 n3 l1 n5 n6 b2 (fun s5 => KL Go.Eng.Ex.normal [(Option.some (Go.Eng.AV.sc (Go.Eng.SV.ptr 1 0 0))), (Option.some (Go.Eng.AV.sc (Go.Eng.SV.str s5)))] [(Option.some (Go.Eng.HE.mk Bool.false (Go.Eng.HB.rows (Go.Sa.B.iDevice l1)))), (Option.some (Go.Eng.HE.mk Bool.false (Go.Eng.HB.exp Option.none [(Go.Eng.SV.int Go.IntKind.i64 n5), (Go.Eng.SV.int Go.IntKind.i64 n6), (Go.Eng.SV.slc 0 Option.none b2)])))]) f s n4 := by
  intro f
  induction f with
  | zero => intros; rfl
  | succ f ih =>
    intro s n4
    rw [iterK_succ, se_impl_TablesOf_w_0]
    exact (congrArg (fun z0 => s_impl_TablesOf_w_0 N b1 n3 l1 n5 n6 b2 s n4 z0 (fun s5 => KL Go.Eng.Ex.normal [(Option.some (Go.Eng.AV.sc (Go.Eng.SV.ptr 1 0 0))), (Option.some (Go.Eng.AV.sc (Go.Eng.SV.str s5)))] [(Option.some (Go.Eng.HE.mk Bool.false (Go.Eng.HB.rows (Go.Sa.B.iDevice l1)))), (Option.some (Go.Eng.HE.mk Bool.false (Go.Eng.HB.exp Option.none [(Go.Eng.SV.int Go.IntKind.i64 n5), (Go.Eng.SV.int Go.IntKind.i64 n6), (Go.Eng.SV.slc 0 Option.none b2)])))])) (funext fun s => funext fun n4 => ih s n4))
def i_impl_TablesOf_w_0 (N : Nat) {R : Type} (vs : List (Option AV)) (H : Hp E) (KL : Ex → List (Option AV) → Hp E → Option R) : Option R :=
  match vs, H with
  | [(Option.some (Go.Eng.AV.sc (Go.Eng.SV.ptr 1 0 0))), (Option.some (Go.Eng.AV.sc (Go.Eng.SV.str s))), (Option.some (Go.Eng.AV.sc (Go.Eng.SV.slc 0 Option.none b1))), (Option.some (Go.Eng.AV.sc (Go.Eng.SV.int Go.IntKind.i64 n3))), (Option.some (Go.Eng.AV.sc (Go.Eng.SV.int Go.IntKind.i64 n4)))], [(Option.some (Go.Eng.HE.mk Bool.false (Go.Eng.HB.rows (Go.Sa.B.iDevice l1)))), (Option.some (Go.Eng.HE.mk Bool.false (Go.Eng.HB.exp Option.none [(Go.Eng.SV.int Go.IntKind.i64 n5), (Go.Eng.SV.int Go.IntKind.i64 n6), (Go.Eng.SV.slc 0 Option.none b2)])))] => c_impl_TablesOf_w_0 N b1 n3 l1 n5 n6 b2 s n4 (fun s6 => KL Go.Eng.Ex.normal [(Option.some (Go.Eng.AV.sc (Go.Eng.SV.ptr 1 0 0))), (Option.some (Go.Eng.AV.sc (Go.Eng.SV.str s6)))] [(Option.some (Go.Eng.HE.mk Bool.false (Go.Eng.HB.rows (Go.Sa.B.iDevice l1)))), (Option.some (Go.Eng.HE.mk Bool.false (Go.Eng.HB.exp Option.none [(Go.Eng.SV.int Go.IntKind.i64 n5), (Go.Eng.SV.int Go.IntKind.i64 n6), (Go.Eng.SV.slc 0 Option.none b2)])))])
  | _, _ => none
noncomputable def IT_impl_TablesOf_w_0 (N : Nat) : Its E := addIt 0 (i_impl_TablesOf_w_0 N) (noIt)
theorem IT_impl_TablesOf_w_0_ok (N : Nat) : ItOk (IT_impl_TablesOf_w_0 N) 1 41 sl_impl_TablesOf_w (lsB Go.Proofs.Try.f44 [0]) :=
  addItB_ok (inner := []) ok (O_impl_TablesOf_w_ok N) (jn_ok _ _ _) (noIt_ok) rfl (by kernel_rfl) rfl fun vs H KL r h => by
    unfold i_impl_TablesOf_w_0 at h
    split at h
    · exact ⟨_, (le_impl_TablesOf_w_0 N _ _ _ _ _ _ KL N _ _).trans h⟩
    · cases h
def g_impl_TablesOf_w (N : Nat) {R : Type} (n : Int) (n1 : Int) (b : Bool) (l : List Go.Sa.Device) (k : Bool → (List Go.Sa.FirmTable) → Option R) : Option R :=
  (g_impl_BoardFault_w N n n1 b l fun n2 =>
  (cond (n2 != (0 : Int))
  (k Bool.true [])
  (c_impl_TablesOf_w_0 N b (((List.length l) : Nat) : Int) l n n1 b (ByteArray.mk (List.toArray [])) (0 : Int) fun s2 =>
    (g_impl_PutWord N n fun s3 =>
    (g_impl_PutWord N n1 fun s4 =>
    (k Bool.false [(Go.Sa.FirmTable.mk (ByteArray.mk (List.toArray [(77 : UInt8), (69 : UInt8), (77 : UInt8), (79 : UInt8)])) (1 : Int) s3), (Go.Sa.FirmTable.mk (ByteArray.mk (List.toArray [(67 : UInt8), (80 : UInt8), (85 : UInt8), (83 : UInt8)])) (1 : Int) s4), (Go.Sa.FirmTable.mk (ByteArray.mk (List.toArray [(68 : UInt8), (69 : UInt8), (86 : UInt8), (83 : UInt8)])) (1 : Int) s2)]))))))
def ga_g_impl_TablesOf_w (N : Nat) (G_impl_PutWord : ∀ {R : Type} (n : Int) (k : ByteArray → Option R), Option R) (G_impl_BoardFault_w : ∀ {R : Type} (n : Int) (n1 : Int) (b : Bool) (l : List Go.Sa.Device) (k : Int → Option R), Option R) {R : Type} (n : Int) (n1 : Int) (b : Bool) (l : List Go.Sa.Device) (k : Bool → (List Go.Sa.FirmTable) → Option R) : Option R :=
  (G_impl_BoardFault_w n n1 b l fun n2 =>
  (cond (n2 != (0 : Int))
  (k Bool.true [])
  (c_impl_TablesOf_w_0 N b (((List.length l) : Nat) : Int) l n n1 b (ByteArray.mk (List.toArray [])) (0 : Int) fun s2 =>
    (G_impl_PutWord n fun s3 =>
    (G_impl_PutWord n1 fun s4 =>
    (k Bool.false [(Go.Sa.FirmTable.mk (ByteArray.mk (List.toArray [(77 : UInt8), (69 : UInt8), (77 : UInt8), (79 : UInt8)])) (1 : Int) s3), (Go.Sa.FirmTable.mk (ByteArray.mk (List.toArray [(67 : UInt8), (80 : UInt8), (85 : UInt8), (83 : UInt8)])) (1 : Int) s4), (Go.Sa.FirmTable.mk (ByteArray.mk (List.toArray [(68 : UInt8), (69 : UInt8), (86 : UInt8), (83 : UInt8)])) (1 : Int) s2)]))))))
theorem ea_e_impl_TablesOf_w (N : Nat) (G_impl_PutWord : ∀ {R : Type} (n : Int) (k : ByteArray → Option R), Option R) (G_impl_BoardFault_w : ∀ {R : Type} (n : Int) (n1 : Int) (b : Bool) (l : List Go.Sa.Device) (k : Int → Option R), Option R) {R : Type} (n : Int) (n1 : Int) (b : Bool) (l : List Go.Sa.Device) (K : AV → Hp E → Option R) :
    runFnI (E := E) (OA_impl_TablesOf_w N G_impl_PutWord G_impl_BoardFault_w) (IT_impl_TablesOf_w_0 N) sl_impl_TablesOf_w J_impl_TablesOf_w Go.Proofs.Try.f44 [(Go.Eng.AV.agg [(Go.Eng.SV.int Go.IntKind.i64 n), (Go.Eng.SV.int Go.IntKind.i64 n1), (Go.Eng.SV.slc 0 Option.none b)])] [(Option.some (Go.Eng.HE.mk Bool.false (Go.Eng.HB.rows (Go.Sa.B.iDevice l))))] K =
      ga_g_impl_TablesOf_w N G_impl_PutWord G_impl_BoardFault_w n n1 b l (fun b3 l2 => K (Go.Eng.AV.sc (Go.Eng.SV.slc 1 Option.none b3)) [(Option.some (Go.Eng.HE.mk Bool.false (Go.Eng.HB.rows (Go.Sa.B.iDevice l)))), (Option.some (Go.Eng.HE.mk Bool.false (Go.Eng.HB.rows (Go.Sa.B.iFirmTable l2))))]) := by kernel_rfl
theorem e_impl_TablesOf_w (N : Nat) {R : Type} (n : Int) (n1 : Int) (b : Bool) (l : List Go.Sa.Device) (K : AV → Hp E → Option R) :
    runFnI (E := E) (O_impl_TablesOf_w N) (IT_impl_TablesOf_w_0 N) sl_impl_TablesOf_w J_impl_TablesOf_w Go.Proofs.Try.f44 [(Go.Eng.AV.agg [(Go.Eng.SV.int Go.IntKind.i64 n), (Go.Eng.SV.int Go.IntKind.i64 n1), (Go.Eng.SV.slc 0 Option.none b)])] [(Option.some (Go.Eng.HE.mk Bool.false (Go.Eng.HB.rows (Go.Sa.B.iDevice l))))] K =
      g_impl_TablesOf_w N n n1 b l (fun b3 l2 => K (Go.Eng.AV.sc (Go.Eng.SV.slc 1 Option.none b3)) [(Option.some (Go.Eng.HE.mk Bool.false (Go.Eng.HB.rows (Go.Sa.B.iDevice l)))), (Option.some (Go.Eng.HE.mk Bool.false (Go.Eng.HB.rows (Go.Sa.B.iFirmTable l2))))]) := castPr (by kernel_rfl) (ea_e_impl_TablesOf_w N (g_impl_PutWord N) (g_impl_BoardFault_w N) n n1 b l K)
def o_impl_TablesOf_w (N : Nat) {R : Type} (args : List AV) (H : Hp E) (K : AV → Hp E → Option R) : Option R :=
  match args, H with
  | [(Go.Eng.AV.agg [(Go.Eng.SV.int Go.IntKind.i64 n), (Go.Eng.SV.int Go.IntKind.i64 n1), (Go.Eng.SV.slc 0 Option.none b)])], [(Option.some (Go.Eng.HE.mk Bool.false (Go.Eng.HB.rows (Go.Sa.B.iDevice l))))] => g_impl_TablesOf_w N n n1 b l (fun b3 l2 => K (Go.Eng.AV.sc (Go.Eng.SV.slc 1 Option.none b3)) [(Option.some (Go.Eng.HE.mk Bool.false (Go.Eng.HB.rows (Go.Sa.B.iDevice l)))), (Option.some (Go.Eng.HE.mk Bool.false (Go.Eng.HB.rows (Go.Sa.B.iFirmTable l2))))])
  | _, _ => none
theorem o_impl_TablesOf_w_ok (N : Nat) : FnOk E 44 (o_impl_TablesOf_w N) := by
  intro R args H K r h
  unfold o_impl_TablesOf_w at h
  dsimp only at h
  split at h
  · exact fnB_ok (ids := [0]) (top := [0]) ok (O_impl_TablesOf_w_ok N) (jn_ok _ _ _) Go.Proofs.Try.func44 (by kernel_rfl) (IT := IT_impl_TablesOf_w_0 N) (sl := sl_impl_TablesOf_w) (J := J_impl_TablesOf_w) (K := K) (H := [(Option.some (Go.Eng.HE.mk Bool.false (Go.Eng.HB.rows (Go.Sa.B.iDevice _))))]) (IT_impl_TablesOf_w_0_ok N) (by kernel_rfl) rfl ((e_impl_TablesOf_w N _ _ _ _ K).trans h)
  · cases h
/-! ### loop.example/g00038/impl.BoardOf$1 -/
abbrev sl_impl_BoardOf_1 : SlotT := []
abbrev J_impl_BoardOf_1 : JT := jn [] [] []
noncomputable def O_impl_BoardOf_1 (N : Nat) : Orc E := addFn 84 (o_impl_ytableOk N) (noFn)
theorem O_impl_BoardOf_1_ok (N : Nat) : OrcOk (O_impl_BoardOf_1 N) := addFn_ok (o_impl_ytableOk_ok N) (noFn_ok)
def g_impl_BoardOf_1 (N : Nat) {R : Type} (s : ByteArray) (n : Int) (s1 : ByteArray) (k : Bool → Option R) : Option R :=
  (g_impl_ytableOk N s n s1 fun b =>
  (k (!b)))
theorem e_impl_BoardOf_1 (N : Nat) {R : Type} (s : ByteArray) (n : Int) (s1 : ByteArray) (K : AV → Hp E → Option R) :
    runFnI (E := E) (O_impl_BoardOf_1 N) (noIt) sl_impl_BoardOf_1 J_impl_BoardOf_1 Go.Proofs.Try.f83 [(Go.Eng.AV.agg [(Go.Eng.SV.str s), (Go.Eng.SV.int Go.IntKind.i64 n), (Go.Eng.SV.str s1)])] [] K =
      g_impl_BoardOf_1 N s n s1 (fun b1 => K (Go.Eng.AV.sc (Go.Eng.SV.bool b1)) []) := by kernel_rfl
def o_impl_BoardOf_1 (N : Nat) {R : Type} (args : List AV) (H : Hp E) (K : AV → Hp E → Option R) : Option R :=
  match args, H with
  | [(Go.Eng.AV.agg [(Go.Eng.SV.str s), (Go.Eng.SV.int Go.IntKind.i64 n), (Go.Eng.SV.str s1)])], [] => g_impl_BoardOf_1 N s n s1 (fun b1 => K (Go.Eng.AV.sc (Go.Eng.SV.bool b1)) [])
  | _, _ => none
theorem o_impl_BoardOf_1_ok (N : Nat) : FnOk E 83 (o_impl_BoardOf_1 N) := by
  intro R args H K r h
  unfold o_impl_BoardOf_1 at h
  dsimp only at h
  split at h
  · exact fnB_ok (ids := []) (top := []) ok (O_impl_BoardOf_1_ok N) (jn_ok _ _ _) Go.Proofs.Try.func83 (by kernel_rfl) (IT := noIt) (sl := sl_impl_BoardOf_1) (J := J_impl_BoardOf_1) (K := K) (H := []) (noIt_ok) (by kernel_rfl) rfl ((e_impl_BoardOf_1 N _ _ _ K).trans h)
  · cases h
/-! ### slices.IndexFunc[[]loop.example/g00038/impl.FirmTable,loop.example/g00038/impl.FirmTable] -/
abbrev sl_slices_IndexFunc_FirmTable_Fimpl_BoardOf_1_r : SlotT := [(0, ([0, 1, 7, 8], [4]))]
abbrev J_slices_IndexFunc_FirmTable_Fimpl_BoardOf_1_r : JT := jn [] [] []
noncomputable def O_slices_IndexFunc_FirmTable_Fimpl_BoardOf_1_r (N : Nat) : Orc E := addFn 83 (o_impl_BoardOf_1 N) (noFn)
theorem O_slices_IndexFunc_FirmTable_Fimpl_BoardOf_1_r_ok (N : Nat) : OrcOk (O_slices_IndexFunc_FirmTable_Fimpl_BoardOf_1_r N) := addFn_ok (o_impl_BoardOf_1_ok N) (noFn_ok)
def s_slices_IndexFunc_FirmTable_Fimpl_BoardOf_1_r_0 (N : Nat) {R : Type} (b1 : Bool) (n : Int) (l1 : List Go.Sa.FirmTable) (n1 : Int) (ag : Int → Option R)  (kR : Int → Option R) (kN : Option R) : Option R :=
  (cond (decide ((n1 < n)))
  (cond ((decide (((0 : Int) ≤ n1))) && (decide ((n1 < (((List.length l1) : Nat) : Int)))))
    (elemK l1 (Int.toNat n1) fun x =>
      (g_impl_BoardOf_1 N (Go.Sa.FirmTable.fName x) (Go.Sa.FirmTable.fRev x) (Go.Sa.FirmTable.fBody x) fun b2 =>
      (cond b2
      (kR n1)
      (ag (Go.IntKind.wrap Go.IntKind.i64 (n1 + (1 : Int)))))))
    none)
  kN)
def l_slices_IndexFunc_FirmTable_Fimpl_BoardOf_1_r_0 (N : Nat) {R : Type} (b1 : Bool) (n : Int) (l1 : List Go.Sa.FirmTable) (kR : Int → Option R) (kN : Option R) : Nat → Int → Option R
  | 0, _ => none
  | f + 1, n1 => s_slices_IndexFunc_FirmTable_Fimpl_BoardOf_1_r_0 N b1 n l1 n1 (fun n1 => l_slices_IndexFunc_FirmTable_Fimpl_BoardOf_1_r_0 N b1 n l1 kR kN f n1)  kR kN
def c_slices_IndexFunc_FirmTable_Fimpl_BoardOf_1_r_0 (N : Nat) {R : Type} (b1 : Bool) (n : Int) (l1 : List Go.Sa.FirmTable) (n1 : Int) (kR : Int → Option R) (kN : Option R) : Option R := l_slices_IndexFunc_FirmTable_Fimpl_BoardOf_1_r_0 N b1 n l1 kR kN N n1
theorem se_slices_IndexFunc_FirmTable_Fimpl_BoardOf_1_r_0 (N : Nat) {R : Type} (b1 : Bool) (n : Int) (l1 : List Go.Sa.FirmTable) (n1 : Int) (AG : List (Option AV) → Hp E → Option R) (KL : Ex → List (Option AV) → Hp E → Option R) :
    iterStep (E := E) (O_slices_IndexFunc_FirmTable_Fimpl_BoardOf_1_r N) (fun {R} => LI (noIt) 1 19 sl_slices_IndexFunc_FirmTable_Fimpl_BoardOf_1_r (R := R)) J_slices_IndexFunc_FirmTable_Fimpl_BoardOf_1_r 1 19 0 [0, 1, 7, 8] [4] (body Go.Proofs.Try.f153 0) AG KL [(Option.some (Go.Eng.AV.sc (Go.Eng.SV.slc 0 Option.none b1))), (Option.some (Go.Eng.AV.sc (Go.Eng.SV.fn 83 []))), (Option.some (Go.Eng.AV.sc (Go.Eng.SV.int Go.IntKind.i64 n))), (Option.some (Go.Eng.AV.sc (Go.Eng.SV.int Go.IntKind.i64 n1)))] [(Option.some (Go.Eng.HE.mk Bool.true (Go.Eng.HB.rows (Go.Sa.B.iFirmTable l1))))] =
      s_slices_IndexFunc_FirmTable_Fimpl_BoardOf_1_r_0 N b1 n l1 n1 (fun n1 => AG [(Option.some (Go.Eng.AV.sc (Go.Eng.SV.slc 0 Option.none b1))), (Option.some (Go.Eng.AV.sc (Go.Eng.SV.fn 83 []))), (Option.some (Go.Eng.AV.sc (Go.Eng.SV.int Go.IntKind.i64 n))), (Option.some (Go.Eng.AV.sc (Go.Eng.SV.int Go.IntKind.i64 n1)))] [(Option.some (Go.Eng.HE.mk Bool.true (Go.Eng.HB.rows (Go.Sa.B.iFirmTable l1))))])  (fun n4 => KL Go.Eng.Ex.ret [(Option.some (Go.Eng.AV.sc (Go.Eng.SV.int Go.IntKind.i64 n4)))] [(Option.some (Go.Eng.HE.mk Bool.true (Go.Eng.HB.rows (Go.Sa.B.iFirmTable l1))))]) (KL Go.Eng.Ex.normal [Option.none] [(Option.some (Go.Eng.HE.mk Bool.true (Go.Eng.HB.rows (Go.Sa.B.iFirmTable l1))))]) := by kernel_rfl
theorem le_slices_IndexFunc_FirmTable_Fimpl_BoardOf_1_r_0 (N : Nat) {R : Type} (b1 : Bool) (n : Int) (l1 : List Go.Sa.FirmTable) (KL : Ex → List (Option AV) → Hp E → Option R) : ∀ (f : Nat), ∀ (n1 : Int), iterK (E := E) (O_slices_IndexFunc_FirmTable_Fimpl_BoardOf_1_r N) (fun {R} => LI (noIt) 1 19 sl_slices_IndexFunc_FirmTable_Fimpl_BoardOf_1_r (R := R)) J_slices_IndexFunc_FirmTable_Fimpl_BoardOf_1_r 1 19 0 [0, 1, 7, 8] [4] (body Go.Proofs.Try.f153 0) f [(Option.some (Go.Eng.AV.sc (Go.Eng.SV.slc 0 Option.none b1))), (Option.some (Go.Eng.AV.sc (Go.Eng.SV.fn 83 []))), (Option.some (Go.Eng.AV.sc (Go.Eng.SV.int Go.IntKind.i64 n))), (Option.some (Go.Eng.AV.sc (Go.Eng.SV.int Go.IntKind.i64 n1)))] [(Option.some (Go.Eng.HE.mk Bool.true (Go.Eng.HB.rows (Go.Sa.B.iFirmTable l1))))] KL = l_slices_IndexFunc_FirmTable_Fimpl_BoardOf_1_r_0 N b1 n l1 (fun n4 => KL Go.Eng.Ex.ret [(Option.some (Go.Eng.AV.sc (Go.Eng.SV.int Go.IntKind.i64 n4)))] [(Option.some (Go.Eng.HE.mk Bool.true (Go.Eng.HB.rows (Go.Sa.B.iFirmTable l1))))]) (KL Go.Eng.Ex.normal [Option.none] [(Option.some (Go.Eng.HE.mk Bool.true (Go.Eng.HB.rows (Go.Sa.B.iFirmTable l1))))]) f n1 := by
  intro f
  induction f with
  | zero => intros; rfl
  | succ f ih =>
    intro n1
    rw [iterK_succ, se_slices_IndexFunc_FirmTable_Fimpl_BoardOf_1_r_0]
    exact (congrArg (fun z0 => s_slices_IndexFunc_FirmTable_Fimpl_BoardOf_1_r_0 N b1 n l1 n1 z0 (fun n4 => KL Go.Eng.Ex.ret [(Option.some (Go.Eng.AV.sc (Go.Eng.SV.int Go.IntKind.i64 n4)))] [(Option.some (Go.Eng.HE.mk Bool.true (Go.Eng.HB.rows (Go.Sa.B.iFirmTable l1))))]) (KL Go.Eng.Ex.normal [Option.none] [(Option.some (Go.Eng.HE.mk Bool.true (Go.Eng.HB.rows (Go.Sa.B.iFirmTable l1))))])) (funext fun n1 => ih n1))
def i_slices_IndexFunc_FirmTable_Fimpl_BoardOf_1_r_0 (N : Nat) {R : Type} (vs : List (Option AV)) (H : Hp E) (KL : Ex → List (Option AV) → Hp E → Option R) : Option R :=
  match vs, H with
  | [(Option.some (Go.Eng.AV.sc (Go.Eng.SV.slc 0 Option.none b1))), (Option.some (Go.Eng.AV.sc (Go.Eng.SV.fn 83 []))), (Option.some (Go.Eng.AV.sc (Go.Eng.SV.int Go.IntKind.i64 n))), (Option.some (Go.Eng.AV.sc (Go.Eng.SV.int Go.IntKind.i64 n1)))], [(Option.some (Go.Eng.HE.mk Bool.true (Go.Eng.HB.rows (Go.Sa.B.iFirmTable l1))))] => c_slices_IndexFunc_FirmTable_Fimpl_BoardOf_1_r_0 N b1 n l1 n1 (fun n5 => KL Go.Eng.Ex.ret [(Option.some (Go.Eng.AV.sc (Go.Eng.SV.int Go.IntKind.i64 n5)))] [(Option.some (Go.Eng.HE.mk Bool.true (Go.Eng.HB.rows (Go.Sa.B.iFirmTable l1))))]) (KL Go.Eng.Ex.normal [Option.none] [(Option.some (Go.Eng.HE.mk Bool.true (Go.Eng.HB.rows (Go.Sa.B.iFirmTable l1))))])
  | _, _ => none
noncomputable def IT_slices_IndexFunc_FirmTable_Fimpl_BoardOf_1_r_0 (N : Nat) : Its E := addIt 0 (i_slices_IndexFunc_FirmTable_Fimpl_BoardOf_1_r_0 N) (noIt)
theorem IT_slices_IndexFunc_FirmTable_Fimpl_BoardOf_1_r_0_ok (N : Nat) : ItOk (IT_slices_IndexFunc_FirmTable_Fimpl_BoardOf_1_r_0 N) 1 19 sl_slices_IndexFunc_FirmTable_Fimpl_BoardOf_1_r (lsB Go.Proofs.Try.f153 [0]) :=
  addItB_ok (inner := []) ok (O_slices_IndexFunc_FirmTable_Fimpl_BoardOf_1_r_ok N) (jn_ok _ _ _) (noIt_ok) rfl (by kernel_rfl) rfl fun vs H KL r h => by
    unfold i_slices_IndexFunc_FirmTable_Fimpl_BoardOf_1_r_0 at h
    split at h
    · exact ⟨_, (le_slices_IndexFunc_FirmTable_Fimpl_BoardOf_1_r_0 N _ _ _ KL N _).trans h⟩
    · cases h
def g_slices_IndexFunc_FirmTable_Fimpl_BoardOf_1_r (N : Nat) {R : Type} (b : Bool) (l : List Go.Sa.FirmTable) (k : Int → Option R) : Option R :=
  (c_slices_IndexFunc_FirmTable_Fimpl_BoardOf_1_r_0 N b (((List.length l) : Nat) : Int) l (0 : Int) (fun n2 =>
  (k n2)) (
  (k (-(1 : Int)))))
theorem e_slices_IndexFunc_FirmTable_Fimpl_BoardOf_1_r (N : Nat) {R : Type} (b : Bool) (l : List Go.Sa.FirmTable) (K : AV → Hp E → Option R) :
    runFnI (E := E) (O_slices_IndexFunc_FirmTable_Fimpl_BoardOf_1_r N) (IT_slices_IndexFunc_FirmTable_Fimpl_BoardOf_1_r_0 N) sl_slices_IndexFunc_FirmTable_Fimpl_BoardOf_1_r J_slices_IndexFunc_FirmTable_Fimpl_BoardOf_1_r Go.Proofs.Try.f153 [(Go.Eng.AV.sc (Go.Eng.SV.slc 0 Option.none b)), (Go.Eng.AV.sc (Go.Eng.SV.fn 83 []))] [(Option.some (Go.Eng.HE.mk Bool.true (Go.Eng.HB.rows (Go.Sa.B.iFirmTable l))))] K =
      g_slices_IndexFunc_FirmTable_Fimpl_BoardOf_1_r N b l (fun n3 => K (Go.Eng.AV.sc (Go.Eng.SV.int Go.IntKind.i64 n3)) [(Option.some (Go.Eng.HE.mk Bool.true (Go.Eng.HB.rows (Go.Sa.B.iFirmTable l))))]) := by kernel_rfl
def o_slices_IndexFunc_FirmTable_Fimpl_BoardOf_1_r (N : Nat) {R : Type} (args : List AV) (H : Hp E) (K : AV → Hp E → Option R) : Option R :=
  match args, H with
  | [(Go.Eng.AV.sc (Go.Eng.SV.slc 0 Option.none b)), (Go.Eng.AV.sc (Go.Eng.SV.fn 83 []))], [(Option.some (Go.Eng.HE.mk Bool.true (Go.Eng.HB.rows (Go.Sa.B.iFirmTable l))))] => g_slices_IndexFunc_FirmTable_Fimpl_BoardOf_1_r N b l (fun n3 => K (Go.Eng.AV.sc (Go.Eng.SV.int Go.IntKind.i64 n3)) [(Option.some (Go.Eng.HE.mk Bool.true (Go.Eng.HB.rows (Go.Sa.B.iFirmTable l))))])
  | _, _ => none
theorem o_slices_IndexFunc_FirmTable_Fimpl_BoardOf_1_r_ok (N : Nat) : FnOk E 153 (o_slices_IndexFunc_FirmTable_Fimpl_BoardOf_1_r N) := by
  intro R args H K r h
  unfold o_slices_IndexFunc_FirmTable_Fimpl_BoardOf_1_r at h
  dsimp only at h
  split at h
  · exact fnB_ok (ids := [0]) (top := [0]) ok (O_slices_IndexFunc_FirmTable_Fimpl_BoardOf_1_r_ok N) (jn_ok _ _ _) Go.Proofs.Try.func153 (by kernel_rfl) (IT := IT_slices_IndexFunc_FirmTable_Fimpl_BoardOf_1_r_0 N) (sl := sl_slices_IndexFunc_FirmTable_Fimpl_BoardOf_1_r) (J := J_slices_IndexFunc_FirmTable_Fimpl_BoardOf_1_r) (K := K) (H := [(Option.some (Go.Eng.HE.mk Bool.true (Go.Eng.HB.rows (Go.Sa.B.iFirmTable _))))]) (IT_slices_IndexFunc_FirmTable_Fimpl_BoardOf_1_r_0_ok N) (by kernel_rfl) rfl ((e_slices_IndexFunc_FirmTable_Fimpl_BoardOf_1_r N _ _ K).trans h)
  · cases h
/-! ### slices.ContainsFunc[[]loop.example/g00038/impl.FirmTable,loop.example/g00038/impl.FirmTable] -/
abbrev sl_slices_ContainsFunc_FirmTable_Fimpl_BoardOf_1_r : SlotT := []
abbrev J_slices_ContainsFunc_FirmTable_Fimpl_BoardOf_1_r : JT := jn [] [] []
noncomputable def O_slices_ContainsFunc_FirmTable_Fimpl_BoardOf_1_r (N : Nat) : Orc E := addFn 153 (o_slices_IndexFunc_FirmTable_Fimpl_BoardOf_1_r N) (noFn)
theorem O_slices_ContainsFunc_FirmTable_Fimpl_BoardOf_1_r_ok (N : Nat) : OrcOk (O_slices_ContainsFunc_FirmTable_Fimpl_BoardOf_1_r N) := addFn_ok (o_slices_IndexFunc_FirmTable_Fimpl_BoardOf_1_r_ok N) (noFn_ok)
def g_slices_ContainsFunc_FirmTable_Fimpl_BoardOf_1_r (N : Nat) {R : Type} (b : Bool) (l : List Go.Sa.FirmTable) (k : Bool → Option R) : Option R :=
  (g_slices_IndexFunc_FirmTable_Fimpl_BoardOf_1_r N b l fun n =>
  (k (decide ((n ≥ (0 : Int))))))
theorem e_slices_ContainsFunc_FirmTable_Fimpl_BoardOf_1_r (N : Nat) {R : Type} (b : Bool) (l : List Go.Sa.FirmTable) (K : AV → Hp E → Option R) :
    runFnI (E := E) (O_slices_ContainsFunc_FirmTable_Fimpl_BoardOf_1_r N) (noIt) sl_slices_ContainsFunc_FirmTable_Fimpl_BoardOf_1_r J_slices_ContainsFunc_FirmTable_Fimpl_BoardOf_1_r Go.Proofs.Try.f82 [(Go.Eng.AV.sc (Go.Eng.SV.slc 0 Option.none b)), (Go.Eng.AV.sc (Go.Eng.SV.fn 83 []))] [(Option.some (Go.Eng.HE.mk Bool.true (Go.Eng.HB.rows (Go.Sa.B.iFirmTable l))))] K =
      g_slices_ContainsFunc_FirmTable_Fimpl_BoardOf_1_r N b l (fun b1 => K (Go.Eng.AV.sc (Go.Eng.SV.bool b1)) [(Option.some (Go.Eng.HE.mk Bool.true (Go.Eng.HB.rows (Go.Sa.B.iFirmTable l))))]) := by kernel_rfl
def o_slices_ContainsFunc_FirmTable_Fimpl_BoardOf_1_r (N : Nat) {R : Type} (args : List AV) (H : Hp E) (K : AV → Hp E → Option R) : Option R :=
  match args, H with
  | [(Go.Eng.AV.sc (Go.Eng.SV.slc 0 Option.none b)), (Go.Eng.AV.sc (Go.Eng.SV.fn 83 []))], [(Option.some (Go.Eng.HE.mk Bool.true (Go.Eng.HB.rows (Go.Sa.B.iFirmTable l))))] => g_slices_ContainsFunc_FirmTable_Fimpl_BoardOf_1_r N b l (fun b1 => K (Go.Eng.AV.sc (Go.Eng.SV.bool b1)) [(Option.some (Go.Eng.HE.mk Bool.true (Go.Eng.HB.rows (Go.Sa.B.iFirmTable l))))])
  | _, _ => none
theorem o_slices_ContainsFunc_FirmTable_Fimpl_BoardOf_1_r_ok (N : Nat) : FnOk E 82 (o_slices_ContainsFunc_FirmTable_Fimpl_BoardOf_1_r N) := by
  intro R args H K r h
  unfold o_slices_ContainsFunc_FirmTable_Fimpl_BoardOf_1_r at h
  dsimp only at h
  split at h
  · exact fnB_ok (ids := []) (top := []) ok (O_slices_ContainsFunc_FirmTable_Fimpl_BoardOf_1_r_ok N) (jn_ok _ _ _) Go.Proofs.Try.func82 (by kernel_rfl) (IT := noIt) (sl := sl_slices_ContainsFunc_FirmTable_Fimpl_BoardOf_1_r) (J := J_slices_ContainsFunc_FirmTable_Fimpl_BoardOf_1_r) (K := K) (H := [(Option.some (Go.Eng.HE.mk Bool.true (Go.Eng.HB.rows (Go.Sa.B.iFirmTable _))))]) (noIt_ok) (by kernel_rfl) rfl ((e_slices_ContainsFunc_FirmTable_Fimpl_BoardOf_1_r N _ _ K).trans h)
  · cases h
/-! ### slices.Equal[[]loop.example/g00038/impl.FirmTable,loop.example/g00038/impl.FirmTable] -/
abbrev sl_slices_Equal_FirmTable_ww : SlotT := [(0, ([0, 1, 12, 13], [4]))]
abbrev J_slices_Equal_FirmTable_ww : JT := jn [] [] []
noncomputable def O_slices_Equal_FirmTable_ww (N : Nat) : Orc E := noFn
theorem O_slices_Equal_FirmTable_ww_ok (N : Nat) : OrcOk (O_slices_Equal_FirmTable_ww N) := noFn_ok
def s_slices_Equal_FirmTable_ww_0 (N : Nat) {R : Type} (b2 : Bool) (b3 : Bool) (n : Int) (l2 : List Go.Sa.FirmTable) (l3 : List Go.Sa.FirmTable) (n1 : Int) (ag : Int → Option R)  (kR : Option R) (kN : Option R) : Option R :=
  (cond (decide ((n1 < n)))
  (cond ((decide (((0 : Int) ≤ n1))) && (decide ((n1 < (((List.length l2) : Nat) : Int)))))
    (elemK l2 (Int.toNat n1) fun x =>
      (cond ((decide (((0 : Int) ≤ n1))) && (decide ((n1 < (((List.length l3) : Nat) : Int)))))
      (elemK l3 (Int.toNat n1) fun x1 =>
        (cond (!((decide (((Go.Sa.FirmTable.fName x) = (Go.Sa.FirmTable.fName x1)))) && (((Go.Sa.FirmTable.fRev x) == (Go.Sa.FirmTable.fRev x1)) && ((decide (((Go.Sa.FirmTable.fBody x) = (Go.Sa.FirmTable.fBody x1)))) && Bool.true))))
        kR
        (ag (Go.IntKind.wrap Go.IntKind.i64 (n1 + (1 : Int))))))
      none))
    none)
  kN)
def l_slices_Equal_FirmTable_ww_0 (N : Nat) {R : Type} (b2 : Bool) (b3 : Bool) (n : Int) (l2 : List Go.Sa.FirmTable) (l3 : List Go.Sa.FirmTable) (kR : Option R) (kN : Option R) : Nat → Int → Option R
  | 0, _ => none
  | f + 1, n1 => s_slices_Equal_FirmTable_ww_0 N b2 b3 n l2 l3 n1 (fun n1 => l_slices_Equal_FirmTable_ww_0 N b2 b3 n l2 l3 kR kN f n1)  kR kN
def c_slices_Equal_FirmTable_ww_0 (N : Nat) {R : Type} (b2 : Bool) (b3 : Bool) (n : Int) (l2 : List Go.Sa.FirmTable) (l3 : List Go.Sa.FirmTable) (n1 : Int) (kR : Option R) (kN : Option R) : Option R := l_slices_Equal_FirmTable_ww_0 N b2 b3 n l2 l3 kR kN N n1
theorem se_slices_Equal_FirmTable_ww_0 (N : Nat) {R : Type} (b2 : Bool) (b3 : Bool) (n : Int) (l2 : List Go.Sa.FirmTable) (l3 : List Go.Sa.FirmTable) (n1 : Int) (AG : List (Option AV) → Hp E → Option R) (KL : Ex → List (Option AV) → Hp E → Option R) :
    iterStep (E := E) (O_slices_Equal_FirmTable_ww N) (fun {R} => LI (noIt) 2 26 sl_slices_Equal_FirmTable_ww (R := R)) J_slices_Equal_FirmTable_ww 2 26 0 [0, 1, 12, 13] [4] (body Go.Proofs.Try.f86 0) AG KL [(Option.some (Go.Eng.AV.sc (Go.Eng.SV.slc 0 Option.none b2))), (Option.some (Go.Eng.AV.sc (Go.Eng.SV.slc 1 Option.none b3))), (Option.some (Go.Eng.AV.sc (Go.Eng.SV.int Go.IntKind.i64 n))), (Option.some (Go.Eng.AV.sc (Go.Eng.SV.int Go.IntKind.i64 n1)))] [(Option.some (Go.Eng.HE.mk Bool.false (Go.Eng.HB.rows (Go.Sa.B.iFirmTable l2)))), (Option.some (Go.Eng.HE.mk Bool.false (Go.Eng.HB.rows (Go.Sa.B.iFirmTable l3))))] =
      s_slices_Equal_FirmTable_ww_0 N b2 b3 n l2 l3 n1 (fun n1 => AG [(Option.some (Go.Eng.AV.sc (Go.Eng.SV.slc 0 Option.none b2))), (Option.some (Go.Eng.AV.sc (Go.Eng.SV.slc 1 Option.none b3))), (Option.some (Go.Eng.AV.sc (Go.Eng.SV.int Go.IntKind.i64 n))), (Option.some (Go.Eng.AV.sc (Go.Eng.SV.int Go.IntKind.i64 n1)))] [(Option.some (Go.Eng.HE.mk Bool.false (Go.Eng.HB.rows (Go.Sa.B.iFirmTable l2)))), (Option.some (Go.Eng.HE.mk Bool.false (Go.Eng.HB.rows (Go.Sa.B.iFirmTable l3))))])  (KL Go.Eng.Ex.ret [(Option.some (Go.Eng.AV.sc (Go.Eng.SV.bool Bool.false)))] [(Option.some (Go.Eng.HE.mk Bool.false (Go.Eng.HB.rows (Go.Sa.B.iFirmTable l2)))), (Option.some (Go.Eng.HE.mk Bool.false (Go.Eng.HB.rows (Go.Sa.B.iFirmTable l3))))]) (KL Go.Eng.Ex.normal [Option.none] [(Option.some (Go.Eng.HE.mk Bool.false (Go.Eng.HB.rows (Go.Sa.B.iFirmTable l2)))), (Option.some (Go.Eng.HE.mk Bool.false (Go.Eng.HB.rows (Go.Sa.B.iFirmTable l3))))]) := by kernel_rfl
theorem le_slices_Equal_FirmTable_ww_0 (N : Nat) {R : Type} (b2 : Bool) (b3 : Bool) (n : Int) (l2 : List Go.Sa.FirmTable) (l3 : List Go.Sa.FirmTable) (KL : Ex → List (Option AV) → Hp E → Option R) : ∀ (f : Nat), ∀ (n1 : Int), iterK (E := E) (O_slices_Equal_FirmTable_ww N) (fun {R} => LI (noIt) 2 26 sl_slices_Equal_FirmTable_ww (R := R)) J_slices_Equal_FirmTable_ww 2 26 0 [0, 1, 12, 13] [4] (body Go.Proofs.Try.f86 0) f [(Option.some (Go.Eng.AV.sc (Go.Eng.SV.slc 0 Option.none b2))), (Option.some (Go.Eng.AV.sc (Go.Eng.SV.slc 1 Option.none b3))), (Option.some (Go.Eng.AV.sc (Go.Eng.SV.int Go.IntKind.i64 n))), (Option.some (Go.Eng.AV.sc (Go.Eng.SV.int Go.IntKind.i64 n1)))] [(Option.some (Go.Eng.HE.mk Bool.false (Go.Eng.HB.rows (Go.Sa.B.iFirmTable l2)))), (Option.some (Go.Eng.HE.mk Bool.false (Go.Eng.HB.rows (Go.Sa.B.iFirmTable l3))))] KL = l_slices_Equal_FirmTable_ww_0 N b2 b3 n l2 l3 (KL Go.Eng.Ex.ret [(Option.some (Go.Eng.AV.sc (Go.Eng.SV.bool Bool.false)))] [(Option.some (Go.Eng.HE.mk Bool.false (Go.Eng.HB.rows (Go.Sa.B.iFirmTable l2)))), (Option.some (Go.Eng.HE.mk Bool.false (Go.Eng.HB.rows (Go.Sa.B.iFirmTable l3))))]) (KL Go.Eng.Ex.normal [Option.none] [(Option.some (Go.Eng.HE.mk Bool.false (Go.Eng.HB.rows (Go.Sa.B.iFirmTable l2)))), (Option.some (Go.Eng.HE.mk Bool.false (Go.Eng.HB.rows (Go.Sa.B.iFirmTable l3))))]) f n1 := by
  intro f
  induction f with
  | zero => intros; rfl
  | succ f ih =>
    intro n1
    rw [iterK_succ, se_slices_Equal_FirmTable_ww_0]
    exact (congrArg (fun z0 => s_slices_Equal_FirmTable_ww_0 N b2 b3 n l2 l3 n1 z0 (KL Go.Eng.Ex.ret [(Option.some (Go.Eng.AV.sc (Go.Eng.SV.bool Bool.false)))] [(Option.some (Go.Eng.HE.mk Bool.false (Go.Eng.HB.rows (Go.Sa.B.iFirmTable l2)))), (Option.some (Go.Eng.HE.mk Bool.false (Go.Eng.HB.rows (Go.Sa.B.iFirmTable l3))))]) (KL Go.Eng.Ex.normal [Option.none] [(Option.some (Go.Eng.HE.mk Bool.false (Go.Eng.HB.rows (Go.Sa.B.iFirmTable l2)))), (Option.some (Go.Eng.HE.mk Bool.false (Go.Eng.HB.rows (Go.Sa.B.iFirmTable l3))))])) (funext fun n1 => ih n1))
def i_slices_Equal_FirmTable_ww_0 (N : Nat) {R : Type} (vs : List (Option AV)) (H : Hp E) (KL : Ex → List (Option AV) → Hp E → Option R) : Option R :=
  match vs, H with
  | [(Option.some (Go.Eng.AV.sc (Go.Eng.SV.slc 0 Option.none b2))), (Option.some (Go.Eng.AV.sc (Go.Eng.SV.slc 1 Option.none b3))), (Option.some (Go.Eng.AV.sc (Go.Eng.SV.int Go.IntKind.i64 n))), (Option.some (Go.Eng.AV.sc (Go.Eng.SV.int Go.IntKind.i64 n1)))], [(Option.some (Go.Eng.HE.mk Bool.false (Go.Eng.HB.rows (Go.Sa.B.iFirmTable l2)))), (Option.some (Go.Eng.HE.mk Bool.false (Go.Eng.HB.rows (Go.Sa.B.iFirmTable l3))))] => c_slices_Equal_FirmTable_ww_0 N b2 b3 n l2 l3 n1 (KL Go.Eng.Ex.ret [(Option.some (Go.Eng.AV.sc (Go.Eng.SV.bool Bool.false)))] [(Option.some (Go.Eng.HE.mk Bool.false (Go.Eng.HB.rows (Go.Sa.B.iFirmTable l2)))), (Option.some (Go.Eng.HE.mk Bool.false (Go.Eng.HB.rows (Go.Sa.B.iFirmTable l3))))]) (KL Go.Eng.Ex.normal [Option.none] [(Option.some (Go.Eng.HE.mk Bool.false (Go.Eng.HB.rows (Go.Sa.B.iFirmTable l2)))), (Option.some (Go.Eng.HE.mk Bool.false (Go.Eng.HB.rows (Go.Sa.B.iFirmTable l3))))])
  | _, _ => none
noncomputable def IT_slices_Equal_FirmTable_ww_0 (N : Nat) : Its E := addIt 0 (i_slices_Equal_FirmTable_ww_0 N) (noIt)
theorem IT_slices_Equal_FirmTable_ww_0_ok (N : Nat) : ItOk (IT_slices_Equal_FirmTable_ww_0 N) 2 26 sl_slices_Equal_FirmTable_ww (lsB Go.Proofs.Try.f86 [0]) :=
  addItB_ok (inner := []) ok (O_slices_Equal_FirmTable_ww_ok N) (jn_ok _ _ _) (noIt_ok) rfl (by kernel_rfl) rfl fun vs H KL r h => by
    unfold i_slices_Equal_FirmTable_ww_0 at h
    split at h
    · exact ⟨_, (le_slices_Equal_FirmTable_ww_0 N _ _ _ _ _ KL N _).trans h⟩
    · cases h
def g_slices_Equal_FirmTable_ww (N : Nat) {R : Type} (b : Bool) (b1 : Bool) (l : List Go.Sa.FirmTable) (l1 : List Go.Sa.FirmTable) (k : Bool → Option R) : Option R :=
  (cond ((((List.length l) : Nat) : Int) != (((List.length l1) : Nat) : Int))
  (k Bool.false)
  (c_slices_Equal_FirmTable_ww_0 N b b1 (((List.length l) : Nat) : Int) l l1 (0 : Int) (
    (k Bool.false)) (
    (k Bool.true))))
theorem e_slices_Equal_FirmTable_ww (N : Nat) {R : Type} (b : Bool) (b1 : Bool) (l : List Go.Sa.FirmTable) (l1 : List Go.Sa.FirmTable) (K : AV → Hp E → Option R) :
    runFnI (E := E) (O_slices_Equal_FirmTable_ww N) (IT_slices_Equal_FirmTable_ww_0 N) sl_slices_Equal_FirmTable_ww J_slices_Equal_FirmTable_ww Go.Proofs.Try.f86 [(Go.Eng.AV.sc (Go.Eng.SV.slc 0 Option.none b)), (Go.Eng.AV.sc (Go.Eng.SV.slc 1 Option.none b1))] [(Option.some (Go.Eng.HE.mk Bool.false (Go.Eng.HB.rows (Go.Sa.B.iFirmTable l)))), (Option.some (Go.Eng.HE.mk Bool.false (Go.Eng.HB.rows (Go.Sa.B.iFirmTable l1))))] K =
      g_slices_Equal_FirmTable_ww N b b1 l l1 (fun b4 => K (Go.Eng.AV.sc (Go.Eng.SV.bool b4)) [(Option.some (Go.Eng.HE.mk Bool.false (Go.Eng.HB.rows (Go.Sa.B.iFirmTable l)))), (Option.some (Go.Eng.HE.mk Bool.false (Go.Eng.HB.rows (Go.Sa.B.iFirmTable l1))))]) := by kernel_rfl
def o_slices_Equal_FirmTable_ww (N : Nat) {R : Type} (args : List AV) (H : Hp E) (K : AV → Hp E → Option R) : Option R :=
  match args, H with
  | [(Go.Eng.AV.sc (Go.Eng.SV.slc 0 Option.none b)), (Go.Eng.AV.sc (Go.Eng.SV.slc 1 Option.none b1))], [(Option.some (Go.Eng.HE.mk Bool.false (Go.Eng.HB.rows (Go.Sa.B.iFirmTable l)))), (Option.some (Go.Eng.HE.mk Bool.false (Go.Eng.HB.rows (Go.Sa.B.iFirmTable l1))))] => g_slices_Equal_FirmTable_ww N b b1 l l1 (fun b4 => K (Go.Eng.AV.sc (Go.Eng.SV.bool b4)) [(Option.some (Go.Eng.HE.mk Bool.false (Go.Eng.HB.rows (Go.Sa.B.iFirmTable l)))), (Option.some (Go.Eng.HE.mk Bool.false (Go.Eng.HB.rows (Go.Sa.B.iFirmTable l1))))])
  | _, _ => none
theorem o_slices_Equal_FirmTable_ww_ok (N : Nat) : FnOk E 86 (o_slices_Equal_FirmTable_ww N) := by
  intro R args H K r h
  unfold o_slices_Equal_FirmTable_ww at h
  dsimp only at h
  split at h
  · exact fnB_ok (ids := [0]) (top := [0]) ok (O_slices_Equal_FirmTable_ww_ok N) (jn_ok _ _ _) Go.Proofs.Try.func86 (by kernel_rfl) (IT := IT_slices_Equal_FirmTable_ww_0 N) (sl := sl_slices_Equal_FirmTable_ww) (J := J_slices_Equal_FirmTable_ww) (K := K) (H := [(Option.some (Go.Eng.HE.mk Bool.false (Go.Eng.HB.rows (Go.Sa.B.iFirmTable _)))), (Option.some (Go.Eng.HE.mk Bool.false (Go.Eng.HB.rows (Go.Sa.B.iFirmTable _))))]) (IT_slices_Equal_FirmTable_ww_0_ok N) (by kernel_rfl) rfl ((e_slices_Equal_FirmTable_ww N _ _ _ _ K).trans h)
  · cases h
end Go.Sa
