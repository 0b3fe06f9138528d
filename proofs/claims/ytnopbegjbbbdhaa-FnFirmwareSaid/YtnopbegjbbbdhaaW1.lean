import Derived.Test.YtnopbegjbbbdhaaSpec
import Derived.Test.YtnopbegjbbbdhaaPLb
import Derived.Test.YtnopbegjbbbdhaaW0
set_option linter.all false
namespace Go.Sa
open Go Go.Eng Go.Proofs
set_option maxRecDepth 100000
/-! ### loop.example/g00038/spec.TablesOf -/
abbrev sl_spec_TablesOf_w : SlotT := [(0, ([1, 3, 4], [1, 3]))]
abbrev J_spec_TablesOf_w : JT := jn [] [] []
noncomputable def O_spec_TablesOf_w (N : Nat) : Orc E := addFn 109 (o_spec_PutWord N) (addFn 43 (o_spec_BoardFault_w N) (noFn))
def pa_spec_TablesOf_w__o_spec_PutWord (N : Nat) (G_spec_PutWord : ∀ {R : Type} (n : Int) (k : ByteArray → Option R), Option R) (G_spec_BoardFault_w : ∀ {R : Type} (n : Int) (n1 : Int) (b : Bool) (l : List Go.Sa.Device) (k : Int → Option R), Option R) {R : Type} (args : List AV) (H : Hp E) (K : AV → Hp E → Option R) : Option R :=
  match args, H with
  | [(Go.Eng.AV.sc (Go.Eng.SV.int Go.IntKind.i64 n))], [] => G_spec_PutWord n (fun s => K (Go.Eng.AV.sc (Go.Eng.SV.str s)) [])
  | _, _ => none
def pa_spec_TablesOf_w__o_spec_BoardFault_w (N : Nat) (G_spec_PutWord : ∀ {R : Type} (n : Int) (k : ByteArray → Option R), Option R) (G_spec_BoardFault_w : ∀ {R : Type} (n : Int) (n1 : Int) (b : Bool) (l : List Go.Sa.Device) (k : Int → Option R), Option R) {R : Type} (args : List AV) (H : Hp E) (K : AV → Hp E → Option R) : Option R :=
  match args, H with
  | [(Go.Eng.AV.agg [(Go.Eng.SV.int Go.IntKind.i64 n), (Go.Eng.SV.int Go.IntKind.i64 n1), (Go.Eng.SV.slc 0 Option.none b)])], [(Option.some (Go.Eng.HE.mk Bool.false (Go.Eng.HB.rows (Go.Sa.B.iDevice l))))] => G_spec_BoardFault_w n n1 b l (fun n5 => K (Go.Eng.AV.sc (Go.Eng.SV.int Go.IntKind.i64 n5)) [(Option.some (Go.Eng.HE.mk Bool.false (Go.Eng.HB.rows (Go.Sa.B.iDevice l))))])
  | _, _ => none
noncomputable def OA_spec_TablesOf_w (N : Nat) (G_spec_PutWord : ∀ {R : Type} (n : Int) (k : ByteArray → Option R), Option R) (G_spec_BoardFault_w : ∀ {R : Type} (n : Int) (n1 : Int) (b : Bool) (l : List Go.Sa.Device) (k : Int → Option R), Option R) : Orc E := addFn 109 (pa_spec_TablesOf_w__o_spec_PutWord N G_spec_PutWord G_spec_BoardFault_w) (addFn 43 (pa_spec_TablesOf_w__o_spec_BoardFault_w N G_spec_PutWord G_spec_BoardFault_w) (noFn))
theorem O_spec_TablesOf_w_ok (N : Nat) : OrcOk (O_spec_TablesOf_w N) := addFn_ok (o_spec_PutWord_ok N) (addFn_ok (o_spec_BoardFault_w_ok N) (noFn_ok))
def s_spec_TablesOf_w_0 (N : Nat) {R : Type} (l1 : List Go.Sa.Device) (n4 : Int) (n5 : Int) (b1 : Bool) (s : ByteArray) (n3 : Int) (ag : ByteArray → Int → Option R)  (kN : ByteArray → Option R) : Option R :=
  (cond (decide ((n3 < (((List.length l1) : Nat) : Int))))
  (cond ((decide (((0 : Int) ≤ n3))) && (decide ((n3 < (((List.length l1) : Nat) : Int)))))
    (elemK l1 (Int.toNat n3) fun x =>
      (g_spec_PutWord N (Go.IntKind.wrap Go.IntKind.i64 ((Go.IntKind.wrap Go.IntKind.i64 ((Go.IntKind.wrap Go.IntKind.i64 ((Go.Sa.Device.fKind x) * (16777216 : Int))) + (Go.IntKind.wrap Go.IntKind.i64 ((Go.Sa.Device.fLine x) * (65536 : Int))))) + (Go.Sa.Device.fPort x))) fun s1 =>
      (cond (Nat.ble ((ByteArray.size s) + (ByteArray.size s1)) 9223372036854775807)
      (ag (s ++ s1) (Go.IntKind.wrap Go.IntKind.i64 (n3 + (1 : Int))))
      none)))
    none)
  (kN s))
def ga_s_spec_TablesOf_w_0 (N : Nat) (G_spec_PutWord : ∀ {R : Type} (n : Int) (k : ByteArray → Option R), Option R) (G_spec_BoardFault_w : ∀ {R : Type} (n : Int) (n1 : Int) (b : Bool) (l : List Go.Sa.Device) (k : Int → Option R), Option R) {R : Type} (l1 : List Go.Sa.Device) (n4 : Int) (n5 : Int) (b1 : Bool) (s : ByteArray) (n3 : Int) (ag : ByteArray → Int → Option R)  (kN : ByteArray → Option R) : Option R :=
  (cond (decide ((n3 < (((List.length l1) : Nat) : Int))))
  (cond ((decide (((0 : Int) ≤ n3))) && (decide ((n3 < (((List.length l1) : Nat) : Int)))))
    (elemK l1 (Int.toNat n3) fun x =>
      (G_spec_PutWord (Go.IntKind.wrap Go.IntKind.i64 ((Go.IntKind.wrap Go.IntKind.i64 ((Go.IntKind.wrap Go.IntKind.i64 ((Go.Sa.Device.fKind x) * (16777216 : Int))) + (Go.IntKind.wrap Go.IntKind.i64 ((Go.Sa.Device.fLine x) * (65536 : Int))))) + (Go.Sa.Device.fPort x))) fun s1 =>
      (cond (Nat.ble ((ByteArray.size s) + (ByteArray.size s1)) 9223372036854775807)
      (ag (s ++ s1) (Go.IntKind.wrap Go.IntKind.i64 (n3 + (1 : Int))))
      none)))
    none)
  (kN s))
def l_spec_TablesOf_w_0 (N : Nat) {R : Type} (l1 : List Go.Sa.Device) (n4 : Int) (n5 : Int) (b1 : Bool) (kN : ByteArray → Option R) : Nat → ByteArray → Int → Option R
  | 0, _, _ => none
  | f + 1, s, n3 => s_spec_TablesOf_w_0 N l1 n4 n5 b1 s n3 (fun s n3 => l_spec_TablesOf_w_0 N l1 n4 n5 b1 kN f s n3)  kN
def c_spec_TablesOf_w_0 (N : Nat) {R : Type} (l1 : List Go.Sa.Device) (n4 : Int) (n5 : Int) (b1 : Bool) (s : ByteArray) (n3 : Int) (kN : ByteArray → Option R) : Option R := l_spec_TablesOf_w_0 N l1 n4 n5 b1 kN N s n3
theorem ea_se_spec_TablesOf_w_0 (N : Nat) (G_spec_PutWord : ∀ {R : Type} (n : Int) (k : ByteArray → Option R), Option R) (G_spec_BoardFault_w : ∀ {R : Type} (n : Int) (n1 : Int) (b : Bool) (l : List Go.Sa.Device) (k : Int → Option R), Option R) {R : Type} (l1 : List Go.Sa.Device) (n4 : Int) (n5 : Int) (b1 : Bool) (s : ByteArray) (n3 : Int) (AG : List (Option AV) → Hp E → Option R) (KL : Ex → List (Option AV) → Hp E → Option R) :
    iterStep (E := E) (OA_spec_TablesOf_w N G_spec_PutWord G_spec_BoardFault_w) (fun {R} => LI (noIt) 1 46 sl_spec_TablesOf_w (R := R)) J_spec_TablesOf_w 1 46 0 [1, 3, 4] [1, 3] (body Go.Proofs.Try.f80 0) AG KL [(Option.some (Go.Eng.AV.sc (Go.Eng.SV.ptr 1 0 0))), (Option.some (Go.Eng.AV.sc (Go.Eng.SV.str s))), (Option.some (Go.Eng.AV.sc (Go.Eng.SV.int Go.IntKind.i64 n3)))] [(Option.some (Go.Eng.HE.mk Bool.false (Go.Eng.HB.rows (Go.Sa.B.iDevice l1)))), (Option.some (Go.Eng.HE.mk Bool.false (Go.Eng.HB.exp Option.none [(Go.Eng.SV.int Go.IntKind.i64 n4), (Go.Eng.SV.int Go.IntKind.i64 n5), (Go.Eng.SV.slc 0 Option.none b1)])))] =
      ga_s_spec_TablesOf_w_0 N G_spec_PutWord G_spec_BoardFault_w l1 n4 n5 b1 s n3 (fun s n3 => AG [(Option.some (Go.Eng.AV.sc (Go.Eng.SV.ptr 1 0 0))), (Option.some (Go.Eng.AV.sc (Go.Eng.SV.str s))), (Option.some (Go.Eng.AV.sc (Go.Eng.SV.int Go.IntKind.i64 n3)))] [(Option.some (Go.Eng.HE.mk Bool.false (Go.Eng.HB.rows (Go.Sa.B.iDevice l1)))), (Option.some (Go.Eng.HE.mk Bool.false (Go.Eng.HB.exp Option.none [(Go.Eng.SV.int Go.IntKind.i64 n4), (Go.Eng.SV.int Go.IntKind.i64 n5), (Go.Eng.SV.slc 0 Option.none b1)])))])  (fun s5 => KL Go.Eng.Ex.normal [(Option.some (Go.Eng.AV.sc (Go.Eng.SV.ptr 1 0 0))), (Option.some (Go.Eng.AV.sc (Go.Eng.SV.str s5)))] [(Option.some (Go.Eng.HE.mk Bool.false (Go.Eng.HB.rows (Go.Sa.B.iDevice l1)))), (Option.some (Go.Eng.HE.mk Bool.false (Go.Eng.HB.exp Option.none [(Go.Eng.SV.int Go.IntKind.i64 n4), (Go.Eng.SV.int Go.IntKind.i64 n5), (Go.Eng.SV.slc 0 Option.none b1)])))]) := by kernel_rfl
theorem se_spec_TablesOf_w_0 (N : Nat) {R : Type} (l1 : List Go.Sa.Device) (n4 : Int) (n5 : Int) (b1 : Bool) (s : ByteArray) (n3 : Int) (AG : List (Option AV) → Hp E → Option R) (KL : Ex → List (Option AV) → Hp E → Option R) :
    iterStep (E := E) (O_spec_TablesOf_w N) (fun {R} => LI (noIt) 1 46 sl_spec_TablesOf_w (R := R)) J_spec_TablesOf_w 1 46 0 [1, 3, 4] [1, 3] (body Go.Proofs.Try.f80 0) AG KL [(Option.some (Go.Eng.AV.sc (Go.Eng.SV.ptr 1 0 0))), (Option.some (Go.Eng.AV.sc (Go.Eng.SV.str s))), (Option.some (Go.Eng.AV.sc (Go.Eng.SV.int Go.IntKind.i64 n3)))] [(Option.some (Go.Eng.HE.mk Bool.false (Go.Eng.HB.rows (Go.Sa.B.iDevice l1)))), (Option.some (Go.Eng.HE.mk Bool.false (Go.Eng.HB.exp Option.none [(Go.Eng.SV.int Go.IntKind.i64 n4), (Go.Eng.SV.int Go.IntKind.i64 n5), (Go.Eng.SV.slc 0 Option.none b1)])))] =
      s_spec_TablesOf_w_0 N l1 n4 n5 b1 s n3 (fun s n3 => AG [(Option.some (Go.Eng.AV.sc (Go.Eng.SV.ptr 1 0 0))), (Option.some (Go.Eng.AV.sc (Go.Eng.SV.str s))), (Option.some (Go.Eng.AV.sc (Go.Eng.SV.int Go.IntKind.i64 n3)))] [(Option.some (Go.Eng.HE.mk Bool.false (Go.Eng.HB.rows (Go.Sa.B.iDevice l1)))), (Option.some (Go.Eng.HE.mk Bool.false (Go.Eng.HB.exp Option.none [(Go.Eng.SV.int Go.IntKind.i64 n4), (Go.Eng.SV.int Go.IntKind.i64 n5), (Go.Eng.SV.slc 0 Option.none b1)])))])  (fun s5 => KL Go.Eng.Ex.normal [(Option.some (Go.Eng.AV.sc (Go.Eng.SV.ptr 1 0 0))), (Option.some (Go.Eng.AV.sc (Go.Eng.SV.str s5)))] [(Option.some (Go.Eng.HE.mk Bool.false (Go.Eng.HB.rows (Go.Sa.B.iDevice l1)))), (Option.some (Go.Eng.HE.mk Bool.false (Go.Eng.HB.exp Option.none [(Go.Eng.SV.int Go.IntKind.i64 n4), (Go.Eng.SV.int Go.IntKind.i64 n5), (Go.Eng.SV.slc 0 Option.none b1)])))]) := castPr (by kernel_rfl) (ea_se_spec_TablesOf_w_0 N (g_spec_PutWord N) (g_spec_BoardFault_w N) l1 n4 n5 b1 s n3 AG KL)
theorem le_spec_TablesOf_w_0 (N : Nat) {R : Type} (l1 : List Go.Sa.Device) (n4 : Int) (n5 : Int) (b1 : Bool) (KL : Ex → List (Option AV) → Hp E → Option R) : ∀ (f : Nat), ∀ (s : ByteArray) (n3 : Int), iterK (E := E) (O_spec_TablesOf_w N) (fun {R} => LI (noIt) 1 46 sl_spec_TablesOf_w (R := R)) J_spec_TablesOf_w 1 46 0 [1, 3, 4] [1, 3] (body Go.Proofs.Try.f80 0) f [(Option.some (Go.Eng.AV.sc (Go.Eng.SV.ptr 1 0 0))), (Option.some (Go.Eng.AV.sc (Go.Eng.SV.str s))), (Option.some (Go.Eng.AV.sc (Go.Eng.SV.int Go.IntKind.i64 n3)))] [(Option.some (Go.Eng.HE.mk Bool.false (Go.Eng.HB.rows (Go.Sa.B.iDevice l1)))), (Option.some (Go.Eng.HE.mk Bool.false (Go.Eng.HB.exp Option.none [(Go.Eng.SV.int Go.IntKind.i64 n4), (Go.Eng.SV.int Go.IntKind.i64 n5), (Go.Eng.SV.slc 0 Option.none b1)])))] KL = l_spec_TablesOf_w_0 N l1 n4 n5 b1 (fun s5 => KL Go.Eng.Ex.normal [(Option.some (Go.Eng.AV.sc (Go.Eng.SV.ptr 1 0 0))), (Option.some (Go.Eng.AV.sc (Go.Eng.SV.str s5)))] [(Option.some (Go.Eng.HE.mk Bool.false (Go.Eng.HB.rows (Go.Sa.B.iDevice l1)))), (Option.some (Go.Eng.HE.mk Bool.false (Go.Eng.HB.exp Option.none [(Go.Eng.SV.int Go.IntKind.i64 n4), (Go.Eng.SV.int Go.IntKind.i64 n5), (Go.Eng.SV.slc 0 Option.none b1)])))]) f s n3 := by
  intro f
  induction f with
  | zero => intros; rfl
  | succ f ih =>
    intro s n3
    rw [iterK_succ, se_spec_TablesOf_w_0]
    exact (congrArg (fun z0 => s_spec_TablesOf_w_0 N l1 n4 n5 b1 s n3 z0 (fun s5 => KL Go.Eng.Ex.normal [(Option.some (Go.Eng.AV.sc (Go.Eng.SV.ptr 1 0 0))), (Option.some (Go.Eng.AV.sc (Go.Eng.SV.str s5)))] [(Option.some (Go.Eng.HE.mk Bool.false (Go.Eng.HB.rows (Go.Sa.B.iDevice l1)))), (Option.some (Go.Eng.HE.mk Bool.false (Go.Eng.HB.exp Option.none [(Go.Eng.SV.int Go.IntKind.i64 n4), (Go.Eng.SV.int Go.IntKind.i64 n5), (Go.Eng.SV.slc 0 Option.none b1)])))])) (funext fun s => funext fun n3 => ih s n3))
def i_spec_TablesOf_w_0 (N : Nat) {R : Type} (vs : List (Option AV)) (H : Hp E) (KL : Ex → List (Option AV) → Hp E → Option R) : Option R :=
  match vs, H with
  | [(Option.some (Go.Eng.AV.sc (Go.Eng.SV.ptr 1 0 0))), (Option.some (Go.Eng.AV.sc (Go.Eng.SV.str s))), (Option.some (Go.Eng.AV.sc (Go.Eng.SV.int Go.IntKind.i64 n3)))], [(Option.some (Go.Eng.HE.mk Bool.false (Go.Eng.HB.rows (Go.Sa.B.iDevice l1)))), (Option.some (Go.Eng.HE.mk Bool.false (Go.Eng.HB.exp Option.none [(Go.Eng.SV.int Go.IntKind.i64 n4), (Go.Eng.SV.int Go.IntKind.i64 n5), (Go.Eng.SV.slc 0 Option.none b1)])))] => c_spec_TablesOf_w_0 N l1 n4 n5 b1 s n3 (fun s6 => KL Go.Eng.Ex.normal [(Option.some (Go.Eng.AV.sc (Go.Eng.SV.ptr 1 0 0))), (Option.some (Go.Eng.AV.sc (Go.Eng.SV.str s6)))] [(Option.some (Go.Eng.HE.mk Bool.false (Go.Eng.HB.rows (Go.Sa.B.iDevice l1)))), (Option.some (Go.Eng.HE.mk Bool.false (Go.Eng.HB.exp Option.none [(Go.Eng.SV.int Go.IntKind.i64 n4), (Go.Eng.SV.int Go.IntKind.i64 n5), (Go.Eng.SV.slc 0 Option.none b1)])))])
  | _, _ => none
noncomputable def IT_spec_TablesOf_w_0 (N : Nat) : Its E := addIt 0 (i_spec_TablesOf_w_0 N) (noIt)
theorem IT_spec_TablesOf_w_0_ok (N : Nat) : ItOk (IT_spec_TablesOf_w_0 N) 1 46 sl_spec_TablesOf_w (lsB Go.Proofs.Try.f80 [0]) :=
  addItB_ok (inner := []) ok (O_spec_TablesOf_w_ok N) (jn_ok _ _ _) (noIt_ok) rfl (by kernel_rfl) rfl fun vs H KL r h => by
    unfold i_spec_TablesOf_w_0 at h
    split at h
    · exact ⟨_, (le_spec_TablesOf_w_0 N _ _ _ _ KL N _ _).trans h⟩
    · cases h
def g_spec_TablesOf_w (N : Nat) {R : Type} (n : Int) (n1 : Int) (b : Bool) (l : List Go.Sa.Device) (k : (List Go.Sa.FirmTable) → Option R) : Option R :=
  (g_spec_BoardFault_w N n n1 b l fun n2 =>
  (cond (n2 != (0 : Int))
  (k [])
  (c_spec_TablesOf_w_0 N l n n1 b (ByteArray.mk (List.toArray [])) (0 : Int) fun s2 =>
    (g_spec_PutWord N n fun s3 =>
    (g_spec_PutWord N n1 fun s4 =>
    (k [(Go.Sa.FirmTable.mk (ByteArray.mk (List.toArray [(77 : UInt8), (69 : UInt8), (77 : UInt8), (79 : UInt8)])) (1 : Int) s3), (Go.Sa.FirmTable.mk (ByteArray.mk (List.toArray [(67 : UInt8), (80 : UInt8), (85 : UInt8), (83 : UInt8)])) (1 : Int) s4), (Go.Sa.FirmTable.mk (ByteArray.mk (List.toArray [(68 : UInt8), (69 : UInt8), (86 : UInt8), (83 : UInt8)])) (1 : Int) s2)]))))))
def ga_g_spec_TablesOf_w (N : Nat) (G_spec_PutWord : ∀ {R : Type} (n : Int) (k : ByteArray → Option R), Option R) (G_spec_BoardFault_w : ∀ {R : Type} (n : Int) (n1 : Int) (b : Bool) (l : List Go.Sa.Device) (k : Int → Option R), Option R) {R : Type} (n : Int) (n1 : Int) (b : Bool) (l : List Go.Sa.Device) (k : (List Go.Sa.FirmTable) → Option R) : Option R :=
  (G_spec_BoardFault_w n n1 b l fun n2 =>
  (cond (n2 != (0 : Int))
  (k [])
  (c_spec_TablesOf_w_0 N l n n1 b (ByteArray.mk (List.toArray [])) (0 : Int) fun s2 =>
    (G_spec_PutWord n fun s3 =>
    (G_spec_PutWord n1 fun s4 =>
    (k [(Go.Sa.FirmTable.mk (ByteArray.mk (List.toArray [(77 : UInt8), (69 : UInt8), (77 : UInt8), (79 : UInt8)])) (1 : Int) s3), (Go.Sa.FirmTable.mk (ByteArray.mk (List.toArray [(67 : UInt8), (80 : UInt8), (85 : UInt8), (83 : UInt8)])) (1 : Int) s4), (Go.Sa.FirmTable.mk (ByteArray.mk (List.toArray [(68 : UInt8), (69 : UInt8), (86 : UInt8), (83 : UInt8)])) (1 : Int) s2)]))))))
theorem ea_e_spec_TablesOf_w (N : Nat) (G_spec_PutWord : ∀ {R : Type} (n : Int) (k : ByteArray → Option R), Option R) (G_spec_BoardFault_w : ∀ {R : Type} (n : Int) (n1 : Int) (b : Bool) (l : List Go.Sa.Device) (k : Int → Option R), Option R) {R : Type} (n : Int) (n1 : Int) (b : Bool) (l : List Go.Sa.Device) (K : AV → Hp E → Option R) :
    runFnI (E := E) (OA_spec_TablesOf_w N G_spec_PutWord G_spec_BoardFault_w) (IT_spec_TablesOf_w_0 N) sl_spec_TablesOf_w J_spec_TablesOf_w Go.Proofs.Try.f80 [(Go.Eng.AV.agg [(Go.Eng.SV.int Go.IntKind.i64 n), (Go.Eng.SV.int Go.IntKind.i64 n1), (Go.Eng.SV.slc 0 Option.none b)])] [(Option.some (Go.Eng.HE.mk Bool.false (Go.Eng.HB.rows (Go.Sa.B.iDevice l))))] K =
      ga_g_spec_TablesOf_w N G_spec_PutWord G_spec_BoardFault_w n n1 b l (fun l2 => K (Go.Eng.AV.sc (Go.Eng.SV.slc 1 Option.none Bool.false)) [(Option.some (Go.Eng.HE.mk Bool.false (Go.Eng.HB.rows (Go.Sa.B.iDevice l)))), (Option.some (Go.Eng.HE.mk Bool.false (Go.Eng.HB.rows (Go.Sa.B.iFirmTable l2))))]) := by kernel_rfl
theorem e_spec_TablesOf_w (N : Nat) {R : Type} (n : Int) (n1 : Int) (b : Bool) (l : List Go.Sa.Device) (K : AV → Hp E → Option R) :
    runFnI (E := E) (O_spec_TablesOf_w N) (IT_spec_TablesOf_w_0 N) sl_spec_TablesOf_w J_spec_TablesOf_w Go.Proofs.Try.f80 [(Go.Eng.AV.agg [(Go.Eng.SV.int Go.IntKind.i64 n), (Go.Eng.SV.int Go.IntKind.i64 n1), (Go.Eng.SV.slc 0 Option.none b)])] [(Option.some (Go.Eng.HE.mk Bool.false (Go.Eng.HB.rows (Go.Sa.B.iDevice l))))] K =
      g_spec_TablesOf_w N n n1 b l (fun l2 => K (Go.Eng.AV.sc (Go.Eng.SV.slc 1 Option.none Bool.false)) [(Option.some (Go.Eng.HE.mk Bool.false (Go.Eng.HB.rows (Go.Sa.B.iDevice l)))), (Option.some (Go.Eng.HE.mk Bool.false (Go.Eng.HB.rows (Go.Sa.B.iFirmTable l2))))]) := castPr (by kernel_rfl) (ea_e_spec_TablesOf_w N (g_spec_PutWord N) (g_spec_BoardFault_w N) n n1 b l K)
def o_spec_TablesOf_w (N : Nat) {R : Type} (args : List AV) (H : Hp E) (K : AV → Hp E → Option R) : Option R :=
  match args, H with
  | [(Go.Eng.AV.agg [(Go.Eng.SV.int Go.IntKind.i64 n), (Go.Eng.SV.int Go.IntKind.i64 n1), (Go.Eng.SV.slc 0 Option.none b)])], [(Option.some (Go.Eng.HE.mk Bool.false (Go.Eng.HB.rows (Go.Sa.B.iDevice l))))] => g_spec_TablesOf_w N n n1 b l (fun l2 => K (Go.Eng.AV.sc (Go.Eng.SV.slc 1 Option.none Bool.false)) [(Option.some (Go.Eng.HE.mk Bool.false (Go.Eng.HB.rows (Go.Sa.B.iDevice l)))), (Option.some (Go.Eng.HE.mk Bool.false (Go.Eng.HB.rows (Go.Sa.B.iFirmTable l2))))])
  | _, _ => none
theorem o_spec_TablesOf_w_ok (N : Nat) : FnOk E 80 (o_spec_TablesOf_w N) := by
  intro R args H K r h
  unfold o_spec_TablesOf_w at h
  dsimp only at h
  split at h
  · exact fnB_ok (ids := [0]) (top := [0]) ok (O_spec_TablesOf_w_ok N) (jn_ok _ _ _) Go.Proofs.Try.func80 (by kernel_rfl) (IT := IT_spec_TablesOf_w_0 N) (sl := sl_spec_TablesOf_w) (J := J_spec_TablesOf_w) (K := K) (H := [(Option.some (Go.Eng.HE.mk Bool.false (Go.Eng.HB.rows (Go.Sa.B.iDevice _))))]) (IT_spec_TablesOf_w_0_ok N) (by kernel_rfl) rfl ((e_spec_TablesOf_w N _ _ _ _ K).trans h)
  · cases h
end Go.Sa
