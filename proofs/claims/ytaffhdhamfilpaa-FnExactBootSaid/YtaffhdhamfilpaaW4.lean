import Derived.Test.YtaffhdhamfilpaaSpec
import Derived.Test.YtaffhdhamfilpaaPLb
import Derived.Test.YtaffhdhamfilpaaW3
set_option linter.all false
namespace Go.Sa
open Go Go.Eng Go.Proofs
set_option maxRecDepth 100000
set_option maxHeartbeats 4000000
/-! ### loop.example/g00038/impl.TablesOf -/
abbrev sl_impl_TablesOf_w : SlotT := [(0, ([1, 3, 10, 11, 12], [1, 3]))]
abbrev J_impl_TablesOf_w : JT := jn [] [] []
noncomputable def O_impl_TablesOf_w (N : Nat) : Orc E := addFn 38 (o_impl_PutWord N) (addFn 89 (o_impl_BoardFault_w N) (noFn))
noncomputable def pa_impl_TablesOf_w__o_impl_PutWord (N : Nat) (G_impl_PutWord : ∀ {R : Type} (n : Int) (k : ByteArray → Option R), Option R) {R : Type} (args : List AV) (H : Hp E) (K : AV → Hp E → Option R) : Option R :=
  match args, H with
  | [(AV.sc (SV.int IntKind.i64 n))], [] => G_impl_PutWord n (fun s => K (AV.sc (SV.str s)) [])
  | _, _ => none
noncomputable def pa_impl_TablesOf_w__o_impl_BoardFault_w (N : Nat) (G_impl_BoardFault_w : ∀ {R : Type} (n : Int) (n1 : Int) (b : Bool) (l : List Device) (k : Int → Option R), Option R) {R : Type} (args : List AV) (H : Hp E) (K : AV → Hp E → Option R) : Option R :=
  match args, H with
  | [(AV.agg [(SV.int IntKind.i64 n), (SV.int IntKind.i64 n1), (SV.slc 0 none b)])], [(some (HE.mk false (HB.rows (B.iDevice l))))] => G_impl_BoardFault_w n n1 b l (fun n6 => K (AV.sc (SV.int IntKind.i64 n6)) [(some (HE.mk false (HB.rows (B.iDevice l))))])
  | _, _ => none
noncomputable def OA_impl_TablesOf_w (N : Nat) (G_impl_PutWord : ∀ {R : Type} (n : Int) (k : ByteArray → Option R), Option R) (G_impl_BoardFault_w : ∀ {R : Type} (n : Int) (n1 : Int) (b : Bool) (l : List Device) (k : Int → Option R), Option R) : Orc E := addFn 38 (pa_impl_TablesOf_w__o_impl_PutWord N G_impl_PutWord) (addFn 89 (pa_impl_TablesOf_w__o_impl_BoardFault_w N G_impl_BoardFault_w) (noFn))
theorem O_impl_TablesOf_w_ok (N : Nat) : OrcOk (O_impl_TablesOf_w N) := addFn_ok (o_impl_PutWord_ok N) (addFn_ok (o_impl_BoardFault_w_ok N) (noFn_ok))
noncomputable def s_impl_TablesOf_w_0 (N : Nat) {R : Type} (b1 : Bool) (n3 : Int) (l1 : List Device) (n5 : Int) (n6 : Int) (b2 : Bool) (s : ByteArray) (n4 : Int) (ag : ByteArray → Int → Option R)  (kN : ByteArray → Option R) : Option R :=
  (cond (decide ((n4 < n3)))
  (cond ((decide (((0 : Int) ≤ n4))) && (decide ((n4 < (((List.length l1) : Nat) : Int)))))
    (elemK l1 (Int.toNat n4) fun x =>
      (g_impl_PutWord N (IntKind.wrap IntKind.i64 ((IntKind.wrap IntKind.i64 ((IntKind.wrap IntKind.i64 ((Device.fKind x) * (16777216 : Int))) + (IntKind.wrap IntKind.i64 ((Device.fLine x) * (65536 : Int))))) + (Device.fPort x))) fun s1 =>
      (cond (Nat.ble ((ByteArray.size s) + (ByteArray.size s1)) 9223372036854775807)
      (ag (s ++ s1) (IntKind.wrap IntKind.i64 (n4 + (1 : Int))))
      none)))
    none)
  (kN s))
noncomputable def ga_s_impl_TablesOf_w_0 (N : Nat) (G_impl_PutWord : ∀ {R : Type} (n : Int) (k : ByteArray → Option R), Option R) (G_impl_BoardFault_w : ∀ {R : Type} (n : Int) (n1 : Int) (b : Bool) (l : List Device) (k : Int → Option R), Option R) {R : Type} (b1 : Bool) (n3 : Int) (l1 : List Device) (n5 : Int) (n6 : Int) (b2 : Bool) (s : ByteArray) (n4 : Int) (ag : ByteArray → Int → Option R)  (kN : ByteArray → Option R) : Option R :=
  (cond (decide ((n4 < n3)))
  (cond ((decide (((0 : Int) ≤ n4))) && (decide ((n4 < (((List.length l1) : Nat) : Int)))))
    (elemK l1 (Int.toNat n4) fun x =>
      (G_impl_PutWord (IntKind.wrap IntKind.i64 ((IntKind.wrap IntKind.i64 ((IntKind.wrap IntKind.i64 ((Device.fKind x) * (16777216 : Int))) + (IntKind.wrap IntKind.i64 ((Device.fLine x) * (65536 : Int))))) + (Device.fPort x))) fun s1 =>
      (cond (Nat.ble ((ByteArray.size s) + (ByteArray.size s1)) 9223372036854775807)
      (ag (s ++ s1) (IntKind.wrap IntKind.i64 (n4 + (1 : Int))))
      none)))
    none)
  (kN s))
noncomputable def l_impl_TablesOf_w_0 (N : Nat) {R : Type} (b1 : Bool) (n3 : Int) (l1 : List Device) (n5 : Int) (n6 : Int) (b2 : Bool) (kN : ByteArray → Option R) : Nat → ByteArray → Int → Option R
  | 0, _, _ => none
  | f + 1, s, n4 => s_impl_TablesOf_w_0 N b1 n3 l1 n5 n6 b2 s n4 (fun s n4 => l_impl_TablesOf_w_0 N b1 n3 l1 n5 n6 b2 kN f s n4)  kN
noncomputable def c_impl_TablesOf_w_0 (N : Nat) {R : Type} (b1 : Bool) (n3 : Int) (l1 : List Device) (n5 : Int) (n6 : Int) (b2 : Bool) (s : ByteArray) (n4 : Int) (kN : ByteArray → Option R) : Option R := l_impl_TablesOf_w_0 N b1 n3 l1 n5 n6 b2 kN N s n4
theorem ea_se_impl_TablesOf_w_0 (N : Nat) (G_impl_PutWord : ∀ {R : Type} (n : Int) (k : ByteArray → Option R), Option R) (G_impl_BoardFault_w : ∀ {R : Type} (n : Int) (n1 : Int) (b : Bool) (l : List Device) (k : Int → Option R), Option R) {R : Type} (b1 : Bool) (n3 : Int) (l1 : List Device) (n5 : Int) (n6 : Int) (b2 : Bool) (s : ByteArray) (n4 : Int) (AG : List (Option AV) → Hp E → Option R) (KL : Ex → List (Option AV) → Hp E → Option R) :
    iterStep (E := E) (OA_impl_TablesOf_w N G_impl_PutWord G_impl_BoardFault_w) (fun {R} => LI (noIt) 1 41 sl_impl_TablesOf_w (R := R)) J_impl_TablesOf_w 1 41 0 [1, 3, 10, 11, 12] [1, 3] (body Go.Proofs.Try.f96 0) AG KL [(some (AV.sc (SV.ptr 1 0 0))), (some (AV.sc (SV.str s))), (some (AV.sc (SV.slc 0 none b1))), (some (AV.sc (SV.int IntKind.i64 n3))), (some (AV.sc (SV.int IntKind.i64 n4)))] [(some (HE.mk false (HB.rows (B.iDevice l1)))), (some (HE.mk false (HB.exp none [(SV.int IntKind.i64 n5), (SV.int IntKind.i64 n6), (SV.slc 0 none b2)])))] =
      ga_s_impl_TablesOf_w_0 N G_impl_PutWord G_impl_BoardFault_w b1 n3 l1 n5 n6 b2 s n4 (fun s n4 => AG [(some (AV.sc (SV.ptr 1 0 0))), (some (AV.sc (SV.str s))), (some (AV.sc (SV.slc 0 none b1))), (some (AV.sc (SV.int IntKind.i64 n3))), (some (AV.sc (SV.int IntKind.i64 n4)))] [(some (HE.mk false (HB.rows (B.iDevice l1)))), (some (HE.mk false (HB.exp none [(SV.int IntKind.i64 n5), (SV.int IntKind.i64 n6), (SV.slc 0 none b2)])))])  (fun s5 => KL Ex.normal [(some (AV.sc (SV.ptr 1 0 0))), (some (AV.sc (SV.str s5)))] [(some (HE.mk false (HB.rows (B.iDevice l1)))), (some (HE.mk false (HB.exp none [(SV.int IntKind.i64 n5), (SV.int IntKind.i64 n6), (SV.slc 0 none b2)])))]) := by kernel_rfl
theorem se_impl_TablesOf_w_0 (N : Nat) {R : Type} (b1 : Bool) (n3 : Int) (l1 : List Device) (n5 : Int) (n6 : Int) (b2 : Bool) (s : ByteArray) (n4 : Int) (AG : List (Option AV) → Hp E → Option R) (KL : Ex → List (Option AV) → Hp E → Option R) :
    iterStep (E := E) (O_impl_TablesOf_w N) (fun {R} => LI (noIt) 1 41 sl_impl_TablesOf_w (R := R)) J_impl_TablesOf_w 1 41 0 [1, 3, 10, 11, 12] [1, 3] (body Go.Proofs.Try.f96 0) AG KL [(some (AV.sc (SV.ptr 1 0 0))), (some (AV.sc (SV.str s))), (some (AV.sc (SV.slc 0 none b1))), (some (AV.sc (SV.int IntKind.i64 n3))), (some (AV.sc (SV.int IntKind.i64 n4)))] [(some (HE.mk false (HB.rows (B.iDevice l1)))), (some (HE.mk false (HB.exp none [(SV.int IntKind.i64 n5), (SV.int IntKind.i64 n6), (SV.slc 0 none b2)])))] =
      s_impl_TablesOf_w_0 N b1 n3 l1 n5 n6 b2 s n4 (fun s n4 => AG [(some (AV.sc (SV.ptr 1 0 0))), (some (AV.sc (SV.str s))), (some (AV.sc (SV.slc 0 none b1))), (some (AV.sc (SV.int IntKind.i64 n3))), (some (AV.sc (SV.int IntKind.i64 n4)))] [(some (HE.mk false (HB.rows (B.iDevice l1)))), (some (HE.mk false (HB.exp none [(SV.int IntKind.i64 n5), (SV.int IntKind.i64 n6), (SV.slc 0 none b2)])))])  (fun s5 => KL Ex.normal [(some (AV.sc (SV.ptr 1 0 0))), (some (AV.sc (SV.str s5)))] [(some (HE.mk false (HB.rows (B.iDevice l1)))), (some (HE.mk false (HB.exp none [(SV.int IntKind.i64 n5), (SV.int IntKind.i64 n6), (SV.slc 0 none b2)])))]) := castPr (by kernel_rfl) (ea_se_impl_TablesOf_w_0 N (g_impl_PutWord N) (g_impl_BoardFault_w N) b1 n3 l1 n5 n6 b2 s n4 AG KL)
theorem le_impl_TablesOf_w_0 (N : Nat) {R : Type} (b1 : Bool) (n3 : Int) (l1 : List Device) (n5 : Int) (n6 : Int) (b2 : Bool) (KL : Ex → List (Option AV) → Hp E → Option R) : ∀ (f : Nat), ∀ (s : ByteArray) (n4 : Int), iterK (E := E) (O_impl_TablesOf_w N) (fun {R} => LI (noIt) 1 41 sl_impl_TablesOf_w (R := R)) J_impl_TablesOf_w 1 41 0 [1, 3, 10, 11, 12] [1, 3] (body Go.Proofs.Try.f96 0) f [(some (AV.sc (SV.ptr 1 0 0))), (some (AV.sc (SV.str s))), (some (AV.sc (SV.slc 0 none b1))), (some (AV.sc (SV.int IntKind.i64 n3))), (some (AV.sc (SV.int IntKind.i64 n4)))] [(some (HE.mk false (HB.rows (B.iDevice l1)))), (some (HE.mk false (HB.exp none [(SV.int IntKind.i64 n5), (SV.int IntKind.i64 n6), (SV.slc 0 none b2)])))] KL = l_impl_TablesOf_w_0 N b1 n3 l1 n5 n6 b2 (fun s5 => KL Ex.normal [(some (AV.sc (SV.ptr 1 0 0))), (some (AV.sc (SV.str s5)))] [(some (HE.mk false (HB.rows (B.iDevice l1)))), (some (HE.mk false (HB.exp none [(SV.int IntKind.i64 n5), (SV.int IntKind.i64 n6), (SV.slc 0 none b2)])))]) f s n4 := by
  intro f
  induction f with
  | zero => intros; rfl
  | succ f ih =>
    intro s n4
    rw [iterK_succ, se_impl_TablesOf_w_0]
    exact (congrArg (fun z0 => s_impl_TablesOf_w_0 N b1 n3 l1 n5 n6 b2 s n4 z0 (fun s5 => KL Ex.normal [(some (AV.sc (SV.ptr 1 0 0))), (some (AV.sc (SV.str s5)))] [(some (HE.mk false (HB.rows (B.iDevice l1)))), (some (HE.mk false (HB.exp none [(SV.int IntKind.i64 n5), (SV.int IntKind.i64 n6), (SV.slc 0 none b2)])))])) (funext fun s => funext fun n4 => ih s n4))
noncomputable def i_impl_TablesOf_w_0 (N : Nat) {R : Type} (vs : List (Option AV)) (H : Hp E) (KL : Ex → List (Option AV) → Hp E → Option R) : Option R :=
  match vs, H with
  | [(some (AV.sc (SV.ptr 1 0 0))), (some (AV.sc (SV.str s))), (some (AV.sc (SV.slc 0 none b1))), (some (AV.sc (SV.int IntKind.i64 n3))), (some (AV.sc (SV.int IntKind.i64 n4)))], [(some (HE.mk false (HB.rows (B.iDevice l1)))), (some (HE.mk false (HB.exp none [(SV.int IntKind.i64 n5), (SV.int IntKind.i64 n6), (SV.slc 0 none b2)])))] => c_impl_TablesOf_w_0 N b1 n3 l1 n5 n6 b2 s n4 (fun s6 => KL Ex.normal [(some (AV.sc (SV.ptr 1 0 0))), (some (AV.sc (SV.str s6)))] [(some (HE.mk false (HB.rows (B.iDevice l1)))), (some (HE.mk false (HB.exp none [(SV.int IntKind.i64 n5), (SV.int IntKind.i64 n6), (SV.slc 0 none b2)])))])
  | _, _ => none
noncomputable def IT_impl_TablesOf_w_0 (N : Nat) : Its E := addIt 0 (i_impl_TablesOf_w_0 N) (noIt)
theorem IT_impl_TablesOf_w_0_ok (N : Nat) : ItOk (IT_impl_TablesOf_w_0 N) 1 41 sl_impl_TablesOf_w (lsB Go.Proofs.Try.f96 [0]) :=
  addItB_ok (inner := []) ok (O_impl_TablesOf_w_ok N) (jn_ok _ _ _) (noIt_ok) rfl (by kernel_rfl) rfl fun vs H KL r h => by
    unfold i_impl_TablesOf_w_0 at h
    split at h
    · exact ⟨_, (le_impl_TablesOf_w_0 N _ _ _ _ _ _ KL N _ _).trans h⟩
    · cases h
noncomputable def g_impl_TablesOf_w (N : Nat) {R : Type} (n : Int) (n1 : Int) (b : Bool) (l : List Device) (k : Bool → (List FirmTable) → Option R) : Option R :=
  (g_impl_BoardFault_w N n n1 b l fun n2 =>
  (cond (n2 != (0 : Int))
  (k true [])
  (c_impl_TablesOf_w_0 N b (((List.length l) : Nat) : Int) l n n1 b (ByteArray.mk (List.toArray [])) (0 : Int) fun s2 =>
    (g_impl_PutWord N n fun s3 =>
    (g_impl_PutWord N n1 fun s4 =>
    (k false [(FirmTable.mk (ByteArray.mk (List.toArray [(77 : UInt8), (69 : UInt8), (77 : UInt8), (79 : UInt8)])) (1 : Int) s3), (FirmTable.mk (ByteArray.mk (List.toArray [(67 : UInt8), (80 : UInt8), (85 : UInt8), (83 : UInt8)])) (1 : Int) s4), (FirmTable.mk (ByteArray.mk (List.toArray [(68 : UInt8), (69 : UInt8), (86 : UInt8), (83 : UInt8)])) (1 : Int) s2)]))))))
noncomputable def ga_g_impl_TablesOf_w (N : Nat) (G_impl_PutWord : ∀ {R : Type} (n : Int) (k : ByteArray → Option R), Option R) (G_impl_BoardFault_w : ∀ {R : Type} (n : Int) (n1 : Int) (b : Bool) (l : List Device) (k : Int → Option R), Option R) {R : Type} (n : Int) (n1 : Int) (b : Bool) (l : List Device) (k : Bool → (List FirmTable) → Option R) : Option R :=
  (G_impl_BoardFault_w n n1 b l fun n2 =>
  (cond (n2 != (0 : Int))
  (k true [])
  (c_impl_TablesOf_w_0 N b (((List.length l) : Nat) : Int) l n n1 b (ByteArray.mk (List.toArray [])) (0 : Int) fun s2 =>
    (G_impl_PutWord n fun s3 =>
    (G_impl_PutWord n1 fun s4 =>
    (k false [(FirmTable.mk (ByteArray.mk (List.toArray [(77 : UInt8), (69 : UInt8), (77 : UInt8), (79 : UInt8)])) (1 : Int) s3), (FirmTable.mk (ByteArray.mk (List.toArray [(67 : UInt8), (80 : UInt8), (85 : UInt8), (83 : UInt8)])) (1 : Int) s4), (FirmTable.mk (ByteArray.mk (List.toArray [(68 : UInt8), (69 : UInt8), (86 : UInt8), (83 : UInt8)])) (1 : Int) s2)]))))))
theorem ea_e_impl_TablesOf_w (N : Nat) (G_impl_PutWord : ∀ {R : Type} (n : Int) (k : ByteArray → Option R), Option R) (G_impl_BoardFault_w : ∀ {R : Type} (n : Int) (n1 : Int) (b : Bool) (l : List Device) (k : Int → Option R), Option R) {R : Type} (n : Int) (n1 : Int) (b : Bool) (l : List Device) (K : AV → Hp E → Option R) :
    runFnI (E := E) (OA_impl_TablesOf_w N G_impl_PutWord G_impl_BoardFault_w) (IT_impl_TablesOf_w_0 N) sl_impl_TablesOf_w J_impl_TablesOf_w Go.Proofs.Try.f96 [(AV.agg [(SV.int IntKind.i64 n), (SV.int IntKind.i64 n1), (SV.slc 0 none b)])] [(some (HE.mk false (HB.rows (B.iDevice l))))] K =
      ga_g_impl_TablesOf_w N G_impl_PutWord G_impl_BoardFault_w n n1 b l (fun b3 l2 => K (AV.sc (SV.slc 1 none b3)) [(some (HE.mk false (HB.rows (B.iDevice l)))), (some (HE.mk false (HB.rows (B.iFirmTable l2))))]) := by kernel_rfl
theorem e_impl_TablesOf_w (N : Nat) {R : Type} (n : Int) (n1 : Int) (b : Bool) (l : List Device) (K : AV → Hp E → Option R) :
    runFnI (E := E) (O_impl_TablesOf_w N) (IT_impl_TablesOf_w_0 N) sl_impl_TablesOf_w J_impl_TablesOf_w Go.Proofs.Try.f96 [(AV.agg [(SV.int IntKind.i64 n), (SV.int IntKind.i64 n1), (SV.slc 0 none b)])] [(some (HE.mk false (HB.rows (B.iDevice l))))] K =
      g_impl_TablesOf_w N n n1 b l (fun b3 l2 => K (AV.sc (SV.slc 1 none b3)) [(some (HE.mk false (HB.rows (B.iDevice l)))), (some (HE.mk false (HB.rows (B.iFirmTable l2))))]) := castPr (by kernel_rfl) (ea_e_impl_TablesOf_w N (g_impl_PutWord N) (g_impl_BoardFault_w N) n n1 b l K)
noncomputable def o_impl_TablesOf_w (N : Nat) {R : Type} (args : List AV) (H : Hp E) (K : AV → Hp E → Option R) : Option R :=
  match args, H with
  | [(AV.agg [(SV.int IntKind.i64 n), (SV.int IntKind.i64 n1), (SV.slc 0 none b)])], [(some (HE.mk false (HB.rows (B.iDevice l))))] => g_impl_TablesOf_w N n n1 b l (fun b3 l2 => K (AV.sc (SV.slc 1 none b3)) [(some (HE.mk false (HB.rows (B.iDevice l)))), (some (HE.mk false (HB.rows (B.iFirmTable l2))))])
  | _, _ => none
theorem o_impl_TablesOf_w_ok (N : Nat) : FnOk E 96 (o_impl_TablesOf_w N) := by
  intro R args H K r h
  unfold o_impl_TablesOf_w at h
  dsimp only at h
  split at h
  · exact fnB_ok (ids := [0]) (top := [0]) ok (O_impl_TablesOf_w_ok N) (jn_ok _ _ _) Go.Proofs.Try.func96 (by kernel_rfl) (IT := IT_impl_TablesOf_w_0 N) (sl := sl_impl_TablesOf_w) (J := J_impl_TablesOf_w) (K := K) (H := [(some (HE.mk false (HB.rows (B.iDevice _))))]) (IT_impl_TablesOf_w_0_ok N) (by kernel_rfl) rfl ((e_impl_TablesOf_w N _ _ _ _ K).trans h)
  · cases h
/-! ### loop.example/g00038/impl.ymemOk -/
abbrev sl_impl_ymemOk : SlotT := []
abbrev J_impl_ymemOk : JT := jn [(1, [(2, .b)])] [] []
noncomputable def O_impl_ymemOk (N : Nat) : Orc E := noFn
theorem O_impl_ymemOk_ok (N : Nat) : OrcOk (O_impl_ymemOk N) := noFn_ok
noncomputable def g_impl_ymemOk (N : Nat) {R : Type} (s : ByteArray) (k : Bool → Option R) : Option R :=
  (oK (cond (decide (((((ByteArray.size s) : Nat) : Int) ≥ (256 : Int))))
    (cond (decide (((((ByteArray.size s) : Nat) : Int) ≤ (65536 : Int))))
      (some ((Int.tmod (((ByteArray.size s) : Nat) : Int) (256 : Int)) == (0 : Int)))
      (some false))
    (some false)) fun j =>
  (k j))
theorem e_impl_ymemOk (N : Nat) {R : Type} (s : ByteArray) (K : AV → Hp E → Option R) :
    runFnI (E := E) (O_impl_ymemOk N) (noIt) sl_impl_ymemOk J_impl_ymemOk Go.Proofs.Try.f75 [(AV.sc (SV.str s))] [] K =
      g_impl_ymemOk N s (fun b => K (AV.sc (SV.bool b)) []) := by kernel_rfl
noncomputable def o_impl_ymemOk (N : Nat) {R : Type} (args : List AV) (H : Hp E) (K : AV → Hp E → Option R) : Option R :=
  match args, H with
  | [(AV.sc (SV.str s))], [] => g_impl_ymemOk N s (fun b => K (AV.sc (SV.bool b)) [])
  | _, _ => none
theorem o_impl_ymemOk_ok (N : Nat) : FnOk E 75 (o_impl_ymemOk N) := by
  intro R args H K r h
  unfold o_impl_ymemOk at h
  dsimp only at h
  split at h
  · exact fnB_ok (ids := []) (top := []) ok (O_impl_ymemOk_ok N) (jn_ok _ _ _) Go.Proofs.Try.func75 (by kernel_rfl) (IT := noIt) (sl := sl_impl_ymemOk) (J := J_impl_ymemOk) (K := K) (H := []) (noIt_ok) (by kernel_rfl) rfl ((e_impl_ymemOk N _ K).trans h)
  · cases h
/-! ### loop.example/g00038/impl.ytableName -/
abbrev sl_impl_ytableName : SlotT := [(0, ([0, 5, 6], [0, 2]))]
abbrev J_impl_ytableName : JT := jn [(4, [(18, .b)])] [] []
noncomputable def O_impl_ytableName (N : Nat) : Orc E := noFn
theorem O_impl_ytableName_ok (N : Nat) : OrcOk (O_impl_ytableName N) := noFn_ok
noncomputable def s_impl_ytableName_0 (N : Nat) {R : Type} (s1 : ByteArray) (n : Int) (n1 : Int) (ag : Int → Option R)  (kR : Option R) (kN : Option R) : Option R :=
  (cond (decide ((n1 < n)))
  (oK (cond ((decide (((0 : Int) ≤ n1))) && (decide ((n1 < (((ByteArray.size s1) : Nat) : Int)))))
      (cond (decide (((Go.Eng.bt s1 (Int.toNat n1)) < (65 : Int))))
        (some true)
        (cond ((decide (((0 : Int) ≤ n1))) && (decide ((n1 < (((ByteArray.size s1) : Nat) : Int)))))
          (some (decide (((Go.Eng.bt s1 (Int.toNat n1)) > (90 : Int)))))
          none))
      none) fun j =>
    (cond j
    kR
    (ag (IntKind.wrap IntKind.i64 (n1 + (1 : Int))))))
  kN)
noncomputable def l_impl_ytableName_0 (N : Nat) {R : Type} (s1 : ByteArray) (n : Int) (kR : Option R) (kN : Option R) : Nat → Int → Option R
  | 0, _ => none
  | f + 1, n1 => s_impl_ytableName_0 N s1 n n1 (fun n1 => l_impl_ytableName_0 N s1 n kR kN f n1)  kR kN
noncomputable def c_impl_ytableName_0 (N : Nat) {R : Type} (s1 : ByteArray) (n : Int) (n1 : Int) (kR : Option R) (kN : Option R) : Option R := l_impl_ytableName_0 N s1 n kR kN N n1
theorem se_impl_ytableName_0 (N : Nat) {R : Type} (s1 : ByteArray) (n : Int) (n1 : Int) (AG : List (Option AV) → Hp E → Option R) (KL : Ex → List (Option AV) → Hp E → Option R) :
    iterStep (E := E) (O_impl_ytableName N) (fun {R} => LI (noIt) 0 23 sl_impl_ytableName (R := R)) J_impl_ytableName 0 23 0 [0, 5, 6] [0, 2] (body Go.Proofs.Try.f126 0) AG KL [(some (AV.sc (SV.str s1))), (some (AV.sc (SV.int IntKind.i64 n))), (some (AV.sc (SV.int IntKind.i64 n1)))] [] =
      s_impl_ytableName_0 N s1 n n1 (fun n1 => AG [(some (AV.sc (SV.str s1))), (some (AV.sc (SV.int IntKind.i64 n))), (some (AV.sc (SV.int IntKind.i64 n1)))] [])  (KL Ex.ret [(some (AV.sc (SV.str s1))), (some (AV.sc (SV.bool false)))] []) (KL Ex.normal [(some (AV.sc (SV.str s1))), none] []) := by kernel_rfl
theorem le_impl_ytableName_0 (N : Nat) {R : Type} (s1 : ByteArray) (n : Int) (KL : Ex → List (Option AV) → Hp E → Option R) : ∀ (f : Nat), ∀ (n1 : Int), iterK (E := E) (O_impl_ytableName N) (fun {R} => LI (noIt) 0 23 sl_impl_ytableName (R := R)) J_impl_ytableName 0 23 0 [0, 5, 6] [0, 2] (body Go.Proofs.Try.f126 0) f [(some (AV.sc (SV.str s1))), (some (AV.sc (SV.int IntKind.i64 n))), (some (AV.sc (SV.int IntKind.i64 n1)))] [] KL = l_impl_ytableName_0 N s1 n (KL Ex.ret [(some (AV.sc (SV.str s1))), (some (AV.sc (SV.bool false)))] []) (KL Ex.normal [(some (AV.sc (SV.str s1))), none] []) f n1 := by
  intro f
  induction f with
  | zero => intros; rfl
  | succ f ih =>
    intro n1
    rw [iterK_succ, se_impl_ytableName_0]
    exact (congrArg (fun z0 => s_impl_ytableName_0 N s1 n n1 z0 (KL Ex.ret [(some (AV.sc (SV.str s1))), (some (AV.sc (SV.bool false)))] []) (KL Ex.normal [(some (AV.sc (SV.str s1))), none] [])) (funext fun n1 => ih n1))
noncomputable def i_impl_ytableName_0 (N : Nat) {R : Type} (vs : List (Option AV)) (H : Hp E) (KL : Ex → List (Option AV) → Hp E → Option R) : Option R :=
  match vs, H with
  | [(some (AV.sc (SV.str s1))), (some (AV.sc (SV.int IntKind.i64 n))), (some (AV.sc (SV.int IntKind.i64 n1)))], [] => c_impl_ytableName_0 N s1 n n1 (KL Ex.ret [(some (AV.sc (SV.str s1))), (some (AV.sc (SV.bool false)))] []) (KL Ex.normal [(some (AV.sc (SV.str s1))), none] [])
  | _, _ => none
noncomputable def IT_impl_ytableName_0 (N : Nat) : Its E := addIt 0 (i_impl_ytableName_0 N) (noIt)
theorem IT_impl_ytableName_0_ok (N : Nat) : ItOk (IT_impl_ytableName_0 N) 0 23 sl_impl_ytableName (lsB Go.Proofs.Try.f126 [0]) :=
  addItB_ok (inner := []) ok (O_impl_ytableName_ok N) (jn_ok _ _ _) (noIt_ok) rfl (by kernel_rfl) rfl fun vs H KL r h => by
    unfold i_impl_ytableName_0 at h
    split at h
    · exact ⟨_, (le_impl_ytableName_0 N _ _ KL N _).trans h⟩
    · cases h
noncomputable def g_impl_ytableName (N : Nat) {R : Type} (s : ByteArray) (k : Bool → Option R) : Option R :=
  (c_impl_ytableName_0 N s (((ByteArray.size s) : Nat) : Int) (0 : Int) (
  (k false)) (
  (k ((((ByteArray.size s) : Nat) : Int) == (4 : Int)))))
theorem e_impl_ytableName (N : Nat) {R : Type} (s : ByteArray) (K : AV → Hp E → Option R) :
    runFnI (E := E) (O_impl_ytableName N) (IT_impl_ytableName_0 N) sl_impl_ytableName J_impl_ytableName Go.Proofs.Try.f126 [(AV.sc (SV.str s))] [] K =
      g_impl_ytableName N s (fun b => K (AV.sc (SV.bool b)) []) := by kernel_rfl
noncomputable def o_impl_ytableName (N : Nat) {R : Type} (args : List AV) (H : Hp E) (K : AV → Hp E → Option R) : Option R :=
  match args, H with
  | [(AV.sc (SV.str s))], [] => g_impl_ytableName N s (fun b => K (AV.sc (SV.bool b)) [])
  | _, _ => none
theorem o_impl_ytableName_ok (N : Nat) : FnOk E 126 (o_impl_ytableName N) := by
  intro R args H K r h
  unfold o_impl_ytableName at h
  dsimp only at h
  split at h
  · exact fnB_ok (ids := [0]) (top := [0]) ok (O_impl_ytableName_ok N) (jn_ok _ _ _) Go.Proofs.Try.func126 (by kernel_rfl) (IT := IT_impl_ytableName_0 N) (sl := sl_impl_ytableName) (J := J_impl_ytableName) (K := K) (H := []) (IT_impl_ytableName_0_ok N) (by kernel_rfl) rfl ((e_impl_ytableName N _ K).trans h)
  · cases h
/-! ### loop.example/g00038/impl.ytableOk -/
abbrev sl_impl_ytableOk : SlotT := []
abbrev J_impl_ytableOk : JT := jn [(1, [(2, .b)])] [] []
noncomputable def O_impl_ytableOk (N : Nat) : Orc E := addFn 78 (o_impl_yin N) (addFn 126 (o_impl_ytableName N) (noFn))
theorem O_impl_ytableOk_ok (N : Nat) : OrcOk (O_impl_ytableOk N) := addFn_ok (o_impl_yin_ok N) (addFn_ok (o_impl_ytableName_ok N) (noFn_ok))
noncomputable def g_impl_ytableOk (N : Nat) {R : Type} (s : ByteArray) (n : Int) (s1 : ByteArray) (k : Bool → Option R) : Option R :=
  (oK (g_impl_ytableName N s fun b =>
    (cond b
    (g_impl_yin N n (0 : Int) (255 : Int) fun b1 =>
      (cond b1
      (cond (decide (((((ByteArray.size s1) : Nat) : Int) ≤ (200 : Int))))
        (some ((Int.tmod (((ByteArray.size s1) : Nat) : Int) (4 : Int)) == (0 : Int)))
        (some false))
      (some false)))
    (some false))) fun j =>
  (k j))
theorem e_impl_ytableOk (N : Nat) {R : Type} (s : ByteArray) (n : Int) (s1 : ByteArray) (K : AV → Hp E → Option R) :
    runFnI (E := E) (O_impl_ytableOk N) (noIt) sl_impl_ytableOk J_impl_ytableOk Go.Proofs.Try.f116 [(AV.agg [(SV.str s), (SV.int IntKind.i64 n), (SV.str s1)])] [] K =
      g_impl_ytableOk N s n s1 (fun b2 => K (AV.sc (SV.bool b2)) []) := by kernel_rfl
noncomputable def o_impl_ytableOk (N : Nat) {R : Type} (args : List AV) (H : Hp E) (K : AV → Hp E → Option R) : Option R :=
  match args, H with
  | [(AV.agg [(SV.str s), (SV.int IntKind.i64 n), (SV.str s1)])], [] => g_impl_ytableOk N s n s1 (fun b2 => K (AV.sc (SV.bool b2)) [])
  | _, _ => none
theorem o_impl_ytableOk_ok (N : Nat) : FnOk E 116 (o_impl_ytableOk N) := by
  intro R args H K r h
  unfold o_impl_ytableOk at h
  dsimp only at h
  split at h
  · exact fnB_ok (ids := []) (top := []) ok (O_impl_ytableOk_ok N) (jn_ok _ _ _) Go.Proofs.Try.func116 (by kernel_rfl) (IT := noIt) (sl := sl_impl_ytableOk) (J := J_impl_ytableOk) (K := K) (H := []) (noIt_ok) (by kernel_rfl) rfl ((e_impl_ytableOk N _ _ _ K).trans h)
  · cases h
/-! ### loop.example/g00038/impl.PutTables$1 -/
abbrev sl_impl_PutTables_1 : SlotT := []
abbrev J_impl_PutTables_1 : JT := jn [] [] []
noncomputable def O_impl_PutTables_1 (N : Nat) : Orc E := addFn 116 (o_impl_ytableOk N) (noFn)
theorem O_impl_PutTables_1_ok (N : Nat) : OrcOk (O_impl_PutTables_1 N) := addFn_ok (o_impl_ytableOk_ok N) (noFn_ok)
noncomputable def g_impl_PutTables_1 (N : Nat) {R : Type} (s : ByteArray) (n : Int) (s1 : ByteArray) (k : Bool → Option R) : Option R :=
  (g_impl_ytableOk N s n s1 fun b =>
  (k (!b)))
theorem e_impl_PutTables_1 (N : Nat) {R : Type} (s : ByteArray) (n : Int) (s1 : ByteArray) (K : AV → Hp E → Option R) :
    runFnI (E := E) (O_impl_PutTables_1 N) (noIt) sl_impl_PutTables_1 J_impl_PutTables_1 Go.Proofs.Try.f115 [(AV.agg [(SV.str s), (SV.int IntKind.i64 n), (SV.str s1)])] [] K =
      g_impl_PutTables_1 N s n s1 (fun b1 => K (AV.sc (SV.bool b1)) []) := by kernel_rfl
noncomputable def o_impl_PutTables_1 (N : Nat) {R : Type} (args : List AV) (H : Hp E) (K : AV → Hp E → Option R) : Option R :=
  match args, H with
  | [(AV.agg [(SV.str s), (SV.int IntKind.i64 n), (SV.str s1)])], [] => g_impl_PutTables_1 N s n s1 (fun b1 => K (AV.sc (SV.bool b1)) [])
  | _, _ => none
theorem o_impl_PutTables_1_ok (N : Nat) : FnOk E 115 (o_impl_PutTables_1 N) := by
  intro R args H K r h
  unfold o_impl_PutTables_1 at h
  dsimp only at h
  split at h
  · exact fnB_ok (ids := []) (top := []) ok (O_impl_PutTables_1_ok N) (jn_ok _ _ _) Go.Proofs.Try.func115 (by kernel_rfl) (IT := noIt) (sl := sl_impl_PutTables_1) (J := J_impl_PutTables_1) (K := K) (H := []) (noIt_ok) (by kernel_rfl) rfl ((e_impl_PutTables_1 N _ _ _ K).trans h)
  · cases h
/-! ### slices.IndexFunc[[]loop.example/g00038/impl.FirmTable,loop.example/g00038/impl.FirmTable] -/
abbrev sl_slices_IndexFunc_FirmTable_Fimpl_PutTables_1_r : SlotT := [(0, ([0, 1, 7, 8], [4]))]
abbrev J_slices_IndexFunc_FirmTable_Fimpl_PutTables_1_r : JT := jn [] [] []
noncomputable def O_slices_IndexFunc_FirmTable_Fimpl_PutTables_1_r (N : Nat) : Orc E := addFn 115 (o_impl_PutTables_1 N) (noFn)
theorem O_slices_IndexFunc_FirmTable_Fimpl_PutTables_1_r_ok (N : Nat) : OrcOk (O_slices_IndexFunc_FirmTable_Fimpl_PutTables_1_r N) := addFn_ok (o_impl_PutTables_1_ok N) (noFn_ok)
noncomputable def s_slices_IndexFunc_FirmTable_Fimpl_PutTables_1_r_0 (N : Nat) {R : Type} (b1 : Bool) (n : Int) (l1 : List FirmTable) (n1 : Int) (ag : Int → Option R)  (kR : Int → Option R) (kN : Option R) : Option R :=
  (cond (decide ((n1 < n)))
  (cond ((decide (((0 : Int) ≤ n1))) && (decide ((n1 < (((List.length l1) : Nat) : Int)))))
    (elemK l1 (Int.toNat n1) fun x =>
      (g_impl_PutTables_1 N (FirmTable.fName x) (FirmTable.fRev x) (FirmTable.fBody x) fun b2 =>
      (cond b2
      (kR n1)
      (ag (IntKind.wrap IntKind.i64 (n1 + (1 : Int)))))))
    none)
  kN)
noncomputable def l_slices_IndexFunc_FirmTable_Fimpl_PutTables_1_r_0 (N : Nat) {R : Type} (b1 : Bool) (n : Int) (l1 : List FirmTable) (kR : Int → Option R) (kN : Option R) : Nat → Int → Option R
  | 0, _ => none
  | f + 1, n1 => s_slices_IndexFunc_FirmTable_Fimpl_PutTables_1_r_0 N b1 n l1 n1 (fun n1 => l_slices_IndexFunc_FirmTable_Fimpl_PutTables_1_r_0 N b1 n l1 kR kN f n1)  kR kN
noncomputable def c_slices_IndexFunc_FirmTable_Fimpl_PutTables_1_r_0 (N : Nat) {R : Type} (b1 : Bool) (n : Int) (l1 : List FirmTable) (n1 : Int) (kR : Int → Option R) (kN : Option R) : Option R := l_slices_IndexFunc_FirmTable_Fimpl_PutTables_1_r_0 N b1 n l1 kR kN N n1
theorem se_slices_IndexFunc_FirmTable_Fimpl_PutTables_1_r_0 (N : Nat) {R : Type} (b1 : Bool) (n : Int) (l1 : List FirmTable) (n1 : Int) (AG : List (Option AV) → Hp E → Option R) (KL : Ex → List (Option AV) → Hp E → Option R) :
    iterStep (E := E) (O_slices_IndexFunc_FirmTable_Fimpl_PutTables_1_r N) (fun {R} => LI (noIt) 1 19 sl_slices_IndexFunc_FirmTable_Fimpl_PutTables_1_r (R := R)) J_slices_IndexFunc_FirmTable_Fimpl_PutTables_1_r 1 19 0 [0, 1, 7, 8] [4] (body Go.Proofs.Try.f125 0) AG KL [(some (AV.sc (SV.slc 0 none b1))), (some (AV.sc (SV.fn 115 []))), (some (AV.sc (SV.int IntKind.i64 n))), (some (AV.sc (SV.int IntKind.i64 n1)))] [(some (HE.mk true (HB.rows (B.iFirmTable l1))))] =
      s_slices_IndexFunc_FirmTable_Fimpl_PutTables_1_r_0 N b1 n l1 n1 (fun n1 => AG [(some (AV.sc (SV.slc 0 none b1))), (some (AV.sc (SV.fn 115 []))), (some (AV.sc (SV.int IntKind.i64 n))), (some (AV.sc (SV.int IntKind.i64 n1)))] [(some (HE.mk true (HB.rows (B.iFirmTable l1))))])  (fun n4 => KL Ex.ret [(some (AV.sc (SV.int IntKind.i64 n4)))] [(some (HE.mk true (HB.rows (B.iFirmTable l1))))]) (KL Ex.normal [none] [(some (HE.mk true (HB.rows (B.iFirmTable l1))))]) := by kernel_rfl
theorem le_slices_IndexFunc_FirmTable_Fimpl_PutTables_1_r_0 (N : Nat) {R : Type} (b1 : Bool) (n : Int) (l1 : List FirmTable) (KL : Ex → List (Option AV) → Hp E → Option R) : ∀ (f : Nat), ∀ (n1 : Int), iterK (E := E) (O_slices_IndexFunc_FirmTable_Fimpl_PutTables_1_r N) (fun {R} => LI (noIt) 1 19 sl_slices_IndexFunc_FirmTable_Fimpl_PutTables_1_r (R := R)) J_slices_IndexFunc_FirmTable_Fimpl_PutTables_1_r 1 19 0 [0, 1, 7, 8] [4] (body Go.Proofs.Try.f125 0) f [(some (AV.sc (SV.slc 0 none b1))), (some (AV.sc (SV.fn 115 []))), (some (AV.sc (SV.int IntKind.i64 n))), (some (AV.sc (SV.int IntKind.i64 n1)))] [(some (HE.mk true (HB.rows (B.iFirmTable l1))))] KL = l_slices_IndexFunc_FirmTable_Fimpl_PutTables_1_r_0 N b1 n l1 (fun n4 => KL Ex.ret [(some (AV.sc (SV.int IntKind.i64 n4)))] [(some (HE.mk true (HB.rows (B.iFirmTable l1))))]) (KL Ex.normal [none] [(some (HE.mk true (HB.rows (B.iFirmTable l1))))]) f n1 := by
  intro f
  induction f with
  | zero => intros; rfl
  | succ f ih =>
    intro n1
    rw [iterK_succ, se_slices_IndexFunc_FirmTable_Fimpl_PutTables_1_r_0]
    exact (congrArg (fun z0 => s_slices_IndexFunc_FirmTable_Fimpl_PutTables_1_r_0 N b1 n l1 n1 z0 (fun n4 => KL Ex.ret [(some (AV.sc (SV.int IntKind.i64 n4)))] [(some (HE.mk true (HB.rows (B.iFirmTable l1))))]) (KL Ex.normal [none] [(some (HE.mk true (HB.rows (B.iFirmTable l1))))])) (funext fun n1 => ih n1))
noncomputable def i_slices_IndexFunc_FirmTable_Fimpl_PutTables_1_r_0 (N : Nat) {R : Type} (vs : List (Option AV)) (H : Hp E) (KL : Ex → List (Option AV) → Hp E → Option R) : Option R :=
  match vs, H with
  | [(some (AV.sc (SV.slc 0 none b1))), (some (AV.sc (SV.fn 115 []))), (some (AV.sc (SV.int IntKind.i64 n))), (some (AV.sc (SV.int IntKind.i64 n1)))], [(some (HE.mk true (HB.rows (B.iFirmTable l1))))] => c_slices_IndexFunc_FirmTable_Fimpl_PutTables_1_r_0 N b1 n l1 n1 (fun n5 => KL Ex.ret [(some (AV.sc (SV.int IntKind.i64 n5)))] [(some (HE.mk true (HB.rows (B.iFirmTable l1))))]) (KL Ex.normal [none] [(some (HE.mk true (HB.rows (B.iFirmTable l1))))])
  | _, _ => none
noncomputable def IT_slices_IndexFunc_FirmTable_Fimpl_PutTables_1_r_0 (N : Nat) : Its E := addIt 0 (i_slices_IndexFunc_FirmTable_Fimpl_PutTables_1_r_0 N) (noIt)
theorem IT_slices_IndexFunc_FirmTable_Fimpl_PutTables_1_r_0_ok (N : Nat) : ItOk (IT_slices_IndexFunc_FirmTable_Fimpl_PutTables_1_r_0 N) 1 19 sl_slices_IndexFunc_FirmTable_Fimpl_PutTables_1_r (lsB Go.Proofs.Try.f125 [0]) :=
  addItB_ok (inner := []) ok (O_slices_IndexFunc_FirmTable_Fimpl_PutTables_1_r_ok N) (jn_ok _ _ _) (noIt_ok) rfl (by kernel_rfl) rfl fun vs H KL r h => by
    unfold i_slices_IndexFunc_FirmTable_Fimpl_PutTables_1_r_0 at h
    split at h
    · exact ⟨_, (le_slices_IndexFunc_FirmTable_Fimpl_PutTables_1_r_0 N _ _ _ KL N _).trans h⟩
    · cases h
noncomputable def g_slices_IndexFunc_FirmTable_Fimpl_PutTables_1_r (N : Nat) {R : Type} (b : Bool) (l : List FirmTable) (k : Int → Option R) : Option R :=
  (c_slices_IndexFunc_FirmTable_Fimpl_PutTables_1_r_0 N b (((List.length l) : Nat) : Int) l (0 : Int) (fun n2 =>
  (k n2)) (
  (k (-(1 : Int)))))
theorem e_slices_IndexFunc_FirmTable_Fimpl_PutTables_1_r (N : Nat) {R : Type} (b : Bool) (l : List FirmTable) (K : AV → Hp E → Option R) :
    runFnI (E := E) (O_slices_IndexFunc_FirmTable_Fimpl_PutTables_1_r N) (IT_slices_IndexFunc_FirmTable_Fimpl_PutTables_1_r_0 N) sl_slices_IndexFunc_FirmTable_Fimpl_PutTables_1_r J_slices_IndexFunc_FirmTable_Fimpl_PutTables_1_r Go.Proofs.Try.f125 [(AV.sc (SV.slc 0 none b)), (AV.sc (SV.fn 115 []))] [(some (HE.mk true (HB.rows (B.iFirmTable l))))] K =
      g_slices_IndexFunc_FirmTable_Fimpl_PutTables_1_r N b l (fun n3 => K (AV.sc (SV.int IntKind.i64 n3)) [(some (HE.mk true (HB.rows (B.iFirmTable l))))]) := by kernel_rfl
noncomputable def o_slices_IndexFunc_FirmTable_Fimpl_PutTables_1_r (N : Nat) {R : Type} (args : List AV) (H : Hp E) (K : AV → Hp E → Option R) : Option R :=
  match args, H with
  | [(AV.sc (SV.slc 0 none b)), (AV.sc (SV.fn 115 []))], [(some (HE.mk true (HB.rows (B.iFirmTable l))))] => g_slices_IndexFunc_FirmTable_Fimpl_PutTables_1_r N b l (fun n3 => K (AV.sc (SV.int IntKind.i64 n3)) [(some (HE.mk true (HB.rows (B.iFirmTable l))))])
  | _, _ => none
theorem o_slices_IndexFunc_FirmTable_Fimpl_PutTables_1_r_ok (N : Nat) : FnOk E 125 (o_slices_IndexFunc_FirmTable_Fimpl_PutTables_1_r N) := by
  intro R args H K r h
  unfold o_slices_IndexFunc_FirmTable_Fimpl_PutTables_1_r at h
  dsimp only at h
  split at h
  · exact fnB_ok (ids := [0]) (top := [0]) ok (O_slices_IndexFunc_FirmTable_Fimpl_PutTables_1_r_ok N) (jn_ok _ _ _) Go.Proofs.Try.func125 (by kernel_rfl) (IT := IT_slices_IndexFunc_FirmTable_Fimpl_PutTables_1_r_0 N) (sl := sl_slices_IndexFunc_FirmTable_Fimpl_PutTables_1_r) (J := J_slices_IndexFunc_FirmTable_Fimpl_PutTables_1_r) (K := K) (H := [(some (HE.mk true (HB.rows (B.iFirmTable _))))]) (IT_slices_IndexFunc_FirmTable_Fimpl_PutTables_1_r_0_ok N) (by kernel_rfl) rfl ((e_slices_IndexFunc_FirmTable_Fimpl_PutTables_1_r N _ _ K).trans h)
  · cases h
/-! ### slices.ContainsFunc[[]loop.example/g00038/impl.FirmTable,loop.example/g00038/impl.FirmTable] -/
abbrev sl_slices_ContainsFunc_FirmTable_Fimpl_PutTables_1_r : SlotT := []
abbrev J_slices_ContainsFunc_FirmTable_Fimpl_PutTables_1_r : JT := jn [] [] []
noncomputable def O_slices_ContainsFunc_FirmTable_Fimpl_PutTables_1_r (N : Nat) : Orc E := addFn 125 (o_slices_IndexFunc_FirmTable_Fimpl_PutTables_1_r N) (noFn)
theorem O_slices_ContainsFunc_FirmTable_Fimpl_PutTables_1_r_ok (N : Nat) : OrcOk (O_slices_ContainsFunc_FirmTable_Fimpl_PutTables_1_r N) := addFn_ok (o_slices_IndexFunc_FirmTable_Fimpl_PutTables_1_r_ok N) (noFn_ok)
noncomputable def g_slices_ContainsFunc_FirmTable_Fimpl_PutTables_1_r (N : Nat) {R : Type} (b : Bool) (l : List FirmTable) (k : Bool → Option R) : Option R :=
  (g_slices_IndexFunc_FirmTable_Fimpl_PutTables_1_r N b l fun n =>
  (k (decide ((n ≥ (0 : Int))))))
theorem e_slices_ContainsFunc_FirmTable_Fimpl_PutTables_1_r (N : Nat) {R : Type} (b : Bool) (l : List FirmTable) (K : AV → Hp E → Option R) :
    runFnI (E := E) (O_slices_ContainsFunc_FirmTable_Fimpl_PutTables_1_r N) (noIt) sl_slices_ContainsFunc_FirmTable_Fimpl_PutTables_1_r J_slices_ContainsFunc_FirmTable_Fimpl_PutTables_1_r Go.Proofs.Try.f114 [(AV.sc (SV.slc 0 none b)), (AV.sc (SV.fn 115 []))] [(some (HE.mk true (HB.rows (B.iFirmTable l))))] K =
      g_slices_ContainsFunc_FirmTable_Fimpl_PutTables_1_r N b l (fun b1 => K (AV.sc (SV.bool b1)) [(some (HE.mk true (HB.rows (B.iFirmTable l))))]) := by kernel_rfl
noncomputable def o_slices_ContainsFunc_FirmTable_Fimpl_PutTables_1_r (N : Nat) {R : Type} (args : List AV) (H : Hp E) (K : AV → Hp E → Option R) : Option R :=
  match args, H with
  | [(AV.sc (SV.slc 0 none b)), (AV.sc (SV.fn 115 []))], [(some (HE.mk true (HB.rows (B.iFirmTable l))))] => g_slices_ContainsFunc_FirmTable_Fimpl_PutTables_1_r N b l (fun b1 => K (AV.sc (SV.bool b1)) [(some (HE.mk true (HB.rows (B.iFirmTable l))))])
  | _, _ => none
theorem o_slices_ContainsFunc_FirmTable_Fimpl_PutTables_1_r_ok (N : Nat) : FnOk E 114 (o_slices_ContainsFunc_FirmTable_Fimpl_PutTables_1_r N) := by
  intro R args H K r h
  unfold o_slices_ContainsFunc_FirmTable_Fimpl_PutTables_1_r at h
  dsimp only at h
  split at h
  · exact fnB_ok (ids := []) (top := []) ok (O_slices_ContainsFunc_FirmTable_Fimpl_PutTables_1_r_ok N) (jn_ok _ _ _) Go.Proofs.Try.func114 (by kernel_rfl) (IT := noIt) (sl := sl_slices_ContainsFunc_FirmTable_Fimpl_PutTables_1_r) (J := J_slices_ContainsFunc_FirmTable_Fimpl_PutTables_1_r) (K := K) (H := [(some (HE.mk true (HB.rows (B.iFirmTable _))))]) (noIt_ok) (by kernel_rfl) rfl ((e_slices_ContainsFunc_FirmTable_Fimpl_PutTables_1_r N _ _ K).trans h)
  · cases h
/-! ### loop.example/g00038/impl.ybyteSum -/
abbrev sl_impl_ybyteSum : SlotT := [(0, ([0, 3, 6, 7], [3]))]
abbrev J_impl_ybyteSum : JT := jn [] [] []
noncomputable def O_impl_ybyteSum (N : Nat) : Orc E := noFn
theorem O_impl_ybyteSum_ok (N : Nat) : OrcOk (O_impl_ybyteSum N) := noFn_ok
noncomputable def s_impl_ybyteSum_0 (N : Nat) {R : Type} (s1 : ByteArray) (n1 : Int) (n : Int) (n2 : Int) (ag : Int → Int → Option R)  (kN : Int → Option R) : Option R :=
  (cond (decide ((n2 < n1)))
  (cond ((decide (((0 : Int) ≤ n2))) && (decide ((n2 < (((ByteArray.size s1) : Nat) : Int)))))
    (ag (IntKind.wrap IntKind.i64 (n + (IntKind.wrap IntKind.i64 (Go.Eng.bt s1 (Int.toNat n2))))) (IntKind.wrap IntKind.i64 (n2 + (1 : Int))))
    none)
  (kN n))
noncomputable def l_impl_ybyteSum_0 (N : Nat) {R : Type} (s1 : ByteArray) (n1 : Int) (kN : Int → Option R) : Nat → Int → Int → Option R
  | 0, _, _ => none
  | f + 1, n, n2 => s_impl_ybyteSum_0 N s1 n1 n n2 (fun n n2 => l_impl_ybyteSum_0 N s1 n1 kN f n n2)  kN
noncomputable def c_impl_ybyteSum_0 (N : Nat) {R : Type} (s1 : ByteArray) (n1 : Int) (n : Int) (n2 : Int) (kN : Int → Option R) : Option R := l_impl_ybyteSum_0 N s1 n1 kN N n n2
theorem se_impl_ybyteSum_0 (N : Nat) {R : Type} (s1 : ByteArray) (n1 : Int) (n : Int) (n2 : Int) (AG : List (Option AV) → Hp E → Option R) (KL : Ex → List (Option AV) → Hp E → Option R) :
    iterStep (E := E) (O_impl_ybyteSum N) (fun {R} => LI (noIt) 0 19 sl_impl_ybyteSum (R := R)) J_impl_ybyteSum 0 19 0 [0, 3, 6, 7] [3] (body Go.Proofs.Try.f117 0) AG KL [(some (AV.sc (SV.str s1))), (some (AV.sc (SV.int IntKind.i64 n))), (some (AV.sc (SV.int IntKind.i64 n1))), (some (AV.sc (SV.int IntKind.i64 n2)))] [] =
      s_impl_ybyteSum_0 N s1 n1 n n2 (fun n n2 => AG [(some (AV.sc (SV.str s1))), (some (AV.sc (SV.int IntKind.i64 n))), (some (AV.sc (SV.int IntKind.i64 n1))), (some (AV.sc (SV.int IntKind.i64 n2)))] [])  (fun n5 => KL Ex.normal [(some (AV.sc (SV.int IntKind.i64 n5)))] []) := by kernel_rfl
theorem le_impl_ybyteSum_0 (N : Nat) {R : Type} (s1 : ByteArray) (n1 : Int) (KL : Ex → List (Option AV) → Hp E → Option R) : ∀ (f : Nat), ∀ (n : Int) (n2 : Int), iterK (E := E) (O_impl_ybyteSum N) (fun {R} => LI (noIt) 0 19 sl_impl_ybyteSum (R := R)) J_impl_ybyteSum 0 19 0 [0, 3, 6, 7] [3] (body Go.Proofs.Try.f117 0) f [(some (AV.sc (SV.str s1))), (some (AV.sc (SV.int IntKind.i64 n))), (some (AV.sc (SV.int IntKind.i64 n1))), (some (AV.sc (SV.int IntKind.i64 n2)))] [] KL = l_impl_ybyteSum_0 N s1 n1 (fun n5 => KL Ex.normal [(some (AV.sc (SV.int IntKind.i64 n5)))] []) f n n2 := by
  intro f
  induction f with
  | zero => intros; rfl
  | succ f ih =>
    intro n n2
    rw [iterK_succ, se_impl_ybyteSum_0]
    exact (congrArg (fun z0 => s_impl_ybyteSum_0 N s1 n1 n n2 z0 (fun n5 => KL Ex.normal [(some (AV.sc (SV.int IntKind.i64 n5)))] [])) (funext fun n => funext fun n2 => ih n n2))
noncomputable def i_impl_ybyteSum_0 (N : Nat) {R : Type} (vs : List (Option AV)) (H : Hp E) (KL : Ex → List (Option AV) → Hp E → Option R) : Option R :=
  match vs, H with
  | [(some (AV.sc (SV.str s1))), (some (AV.sc (SV.int IntKind.i64 n))), (some (AV.sc (SV.int IntKind.i64 n1))), (some (AV.sc (SV.int IntKind.i64 n2)))], [] => c_impl_ybyteSum_0 N s1 n1 n n2 (fun n6 => KL Ex.normal [(some (AV.sc (SV.int IntKind.i64 n6)))] [])
  | _, _ => none
noncomputable def IT_impl_ybyteSum_0 (N : Nat) : Its E := addIt 0 (i_impl_ybyteSum_0 N) (noIt)
theorem IT_impl_ybyteSum_0_ok (N : Nat) : ItOk (IT_impl_ybyteSum_0 N) 0 19 sl_impl_ybyteSum (lsB Go.Proofs.Try.f117 [0]) :=
  addItB_ok (inner := []) ok (O_impl_ybyteSum_ok N) (jn_ok _ _ _) (noIt_ok) rfl (by kernel_rfl) rfl fun vs H KL r h => by
    unfold i_impl_ybyteSum_0 at h
    split at h
    · exact ⟨_, (le_impl_ybyteSum_0 N _ _ KL N _ _).trans h⟩
    · cases h
noncomputable def g_impl_ybyteSum (N : Nat) {R : Type} (s : ByteArray) (k : Int → Option R) : Option R :=
  (c_impl_ybyteSum_0 N s (((ByteArray.size s) : Nat) : Int) (0 : Int) (0 : Int) fun n3 =>
  (k (IntKind.wrap IntKind.i64 (((BitVec.toNat ((BitVec.ofInt 64 n3) &&& (BitVec.ofInt 64 (255 : Int)))) : Nat) : Int))))
theorem e_impl_ybyteSum (N : Nat) {R : Type} (s : ByteArray) (K : AV → Hp E → Option R) :
    runFnI (E := E) (O_impl_ybyteSum N) (IT_impl_ybyteSum_0 N) sl_impl_ybyteSum J_impl_ybyteSum Go.Proofs.Try.f117 [(AV.sc (SV.str s))] [] K =
      g_impl_ybyteSum N s (fun n4 => K (AV.sc (SV.int IntKind.i64 n4)) []) := by kernel_rfl
noncomputable def o_impl_ybyteSum (N : Nat) {R : Type} (args : List AV) (H : Hp E) (K : AV → Hp E → Option R) : Option R :=
  match args, H with
  | [(AV.sc (SV.str s))], [] => g_impl_ybyteSum N s (fun n4 => K (AV.sc (SV.int IntKind.i64 n4)) [])
  | _, _ => none
theorem o_impl_ybyteSum_ok (N : Nat) : FnOk E 117 (o_impl_ybyteSum N) := by
  intro R args H K r h
  unfold o_impl_ybyteSum at h
  dsimp only at h
  split at h
  · exact fnB_ok (ids := [0]) (top := [0]) ok (O_impl_ybyteSum_ok N) (jn_ok _ _ _) Go.Proofs.Try.func117 (by kernel_rfl) (IT := IT_impl_ybyteSum_0 N) (sl := sl_impl_ybyteSum) (J := J_impl_ybyteSum) (K := K) (H := []) (IT_impl_ybyteSum_0_ok N) (by kernel_rfl) rfl ((e_impl_ybyteSum N _ K).trans h)
  · cases h
/-! ### loop.example/g00038/impl.Word -/
abbrev sl_impl_Word : SlotT := []
abbrev J_impl_Word : JT := jn [] [] []
noncomputable def O_impl_Word (N : Nat) : Orc E := noFn
theorem O_impl_Word_ok (N : Nat) : OrcOk (O_impl_Word N) := noFn_ok
noncomputable def g_impl_Word (N : Nat) {R : Type} (n : Int) (k : Int → Option R) : Option R :=
  (k (IntKind.wrap IntKind.i64 (IntKind.wrap IntKind.u32 n)))
theorem e_impl_Word (N : Nat) {R : Type} (n : Int) (K : AV → Hp E → Option R) :
    runFnI (E := E) (O_impl_Word N) (noIt) sl_impl_Word J_impl_Word Go.Proofs.Try.f127 [(AV.sc (SV.int IntKind.i64 n))] [] K =
      g_impl_Word N n (fun n1 => K (AV.sc (SV.int IntKind.i64 n1)) []) := by kernel_rfl
noncomputable def o_impl_Word (N : Nat) {R : Type} (args : List AV) (H : Hp E) (K : AV → Hp E → Option R) : Option R :=
  match args, H with
  | [(AV.sc (SV.int IntKind.i64 n))], [] => g_impl_Word N n (fun n1 => K (AV.sc (SV.int IntKind.i64 n1)) [])
  | _, _ => none
theorem o_impl_Word_ok (N : Nat) : FnOk E 127 (o_impl_Word N) := by
  intro R args H K r h
  unfold o_impl_Word at h
  dsimp only at h
  split at h
  · exact fnB_ok (ids := []) (top := []) ok (O_impl_Word_ok N) (jn_ok _ _ _) Go.Proofs.Try.func127 (by kernel_rfl) (IT := noIt) (sl := sl_impl_Word) (J := J_impl_Word) (K := K) (H := []) (noIt_ok) (by kernel_rfl) rfl ((e_impl_Word N _ K).trans h)
  · cases h
/-! ### loop.example/g00038/impl.ywordSum -/
abbrev sl_impl_ywordSum : SlotT := [(0, ([0, 3, 4], [3]))]
abbrev J_impl_ywordSum : JT := jn [] [] []
noncomputable def O_impl_ywordSum (N : Nat) : Orc E := addFn 127 (o_impl_Word N) (addFn 91 (o_impl_ywordAt N) (noFn))
theorem O_impl_ywordSum_ok (N : Nat) : OrcOk (O_impl_ywordSum N) := addFn_ok (o_impl_Word_ok N) (addFn_ok (o_impl_ywordAt_ok N) (noFn_ok))
noncomputable def s_impl_ywordSum_0 (N : Nat) {R : Type} (s1 : ByteArray) (n : Int) (n1 : Int) (ag : Int → Int → Option R)  (kN : Int → Option R) : Option R :=
  (cond (decide ((n1 < (((ByteArray.size s1) : Nat) : Int))))
  (g_impl_ywordAt N s1 n1 fun n2 =>
    (ag (IntKind.wrap IntKind.i64 (n + n2)) (IntKind.wrap IntKind.i64 (n1 + (4 : Int)))))
  (kN n))
noncomputable def l_impl_ywordSum_0 (N : Nat) {R : Type} (s1 : ByteArray) (kN : Int → Option R) : Nat → Int → Int → Option R
  | 0, _, _ => none
  | f + 1, n, n1 => s_impl_ywordSum_0 N s1 n n1 (fun n n1 => l_impl_ywordSum_0 N s1 kN f n n1)  kN
noncomputable def c_impl_ywordSum_0 (N : Nat) {R : Type} (s1 : ByteArray) (n : Int) (n1 : Int) (kN : Int → Option R) : Option R := l_impl_ywordSum_0 N s1 kN N n n1
theorem se_impl_ywordSum_0 (N : Nat) {R : Type} (s1 : ByteArray) (n : Int) (n1 : Int) (AG : List (Option AV) → Hp E → Option R) (KL : Ex → List (Option AV) → Hp E → Option R) :
    iterStep (E := E) (O_impl_ywordSum N) (fun {R} => LI (noIt) 0 18 sl_impl_ywordSum (R := R)) J_impl_ywordSum 0 18 0 [0, 3, 4] [3] (body Go.Proofs.Try.f118 0) AG KL [(some (AV.sc (SV.str s1))), (some (AV.sc (SV.int IntKind.i64 n))), (some (AV.sc (SV.int IntKind.i64 n1)))] [] =
      s_impl_ywordSum_0 N s1 n n1 (fun n n1 => AG [(some (AV.sc (SV.str s1))), (some (AV.sc (SV.int IntKind.i64 n))), (some (AV.sc (SV.int IntKind.i64 n1)))] [])  (fun n6 => KL Ex.normal [(some (AV.sc (SV.int IntKind.i64 n6)))] []) := by kernel_rfl
theorem le_impl_ywordSum_0 (N : Nat) {R : Type} (s1 : ByteArray) (KL : Ex → List (Option AV) → Hp E → Option R) : ∀ (f : Nat), ∀ (n : Int) (n1 : Int), iterK (E := E) (O_impl_ywordSum N) (fun {R} => LI (noIt) 0 18 sl_impl_ywordSum (R := R)) J_impl_ywordSum 0 18 0 [0, 3, 4] [3] (body Go.Proofs.Try.f118 0) f [(some (AV.sc (SV.str s1))), (some (AV.sc (SV.int IntKind.i64 n))), (some (AV.sc (SV.int IntKind.i64 n1)))] [] KL = l_impl_ywordSum_0 N s1 (fun n6 => KL Ex.normal [(some (AV.sc (SV.int IntKind.i64 n6)))] []) f n n1 := by
  intro f
  induction f with
  | zero => intros; rfl
  | succ f ih =>
    intro n n1
    rw [iterK_succ, se_impl_ywordSum_0]
    exact (congrArg (fun z0 => s_impl_ywordSum_0 N s1 n n1 z0 (fun n6 => KL Ex.normal [(some (AV.sc (SV.int IntKind.i64 n6)))] [])) (funext fun n => funext fun n1 => ih n n1))
noncomputable def i_impl_ywordSum_0 (N : Nat) {R : Type} (vs : List (Option AV)) (H : Hp E) (KL : Ex → List (Option AV) → Hp E → Option R) : Option R :=
  match vs, H with
  | [(some (AV.sc (SV.str s1))), (some (AV.sc (SV.int IntKind.i64 n))), (some (AV.sc (SV.int IntKind.i64 n1)))], [] => c_impl_ywordSum_0 N s1 n n1 (fun n7 => KL Ex.normal [(some (AV.sc (SV.int IntKind.i64 n7)))] [])
  | _, _ => none
noncomputable def IT_impl_ywordSum_0 (N : Nat) : Its E := addIt 0 (i_impl_ywordSum_0 N) (noIt)
theorem IT_impl_ywordSum_0_ok (N : Nat) : ItOk (IT_impl_ywordSum_0 N) 0 18 sl_impl_ywordSum (lsB Go.Proofs.Try.f118 [0]) :=
  addItB_ok (inner := []) ok (O_impl_ywordSum_ok N) (jn_ok _ _ _) (noIt_ok) rfl (by kernel_rfl) rfl fun vs H KL r h => by
    unfold i_impl_ywordSum_0 at h
    split at h
    · exact ⟨_, (le_impl_ywordSum_0 N _ KL N _ _).trans h⟩
    · cases h
noncomputable def g_impl_ywordSum (N : Nat) {R : Type} (s : ByteArray) (k : Int → Option R) : Option R :=
  (c_impl_ywordSum_0 N s (0 : Int) (0 : Int) fun n3 =>
  (g_impl_Word N n3 fun n4 =>
  (k n4)))
theorem e_impl_ywordSum (N : Nat) {R : Type} (s : ByteArray) (K : AV → Hp E → Option R) :
    runFnI (E := E) (O_impl_ywordSum N) (IT_impl_ywordSum_0 N) sl_impl_ywordSum J_impl_ywordSum Go.Proofs.Try.f118 [(AV.sc (SV.str s))] [] K =
      g_impl_ywordSum N s (fun n5 => K (AV.sc (SV.int IntKind.i64 n5)) []) := by kernel_rfl
noncomputable def o_impl_ywordSum (N : Nat) {R : Type} (args : List AV) (H : Hp E) (K : AV → Hp E → Option R) : Option R :=
  match args, H with
  | [(AV.sc (SV.str s))], [] => g_impl_ywordSum N s (fun n5 => K (AV.sc (SV.int IntKind.i64 n5)) [])
  | _, _ => none
theorem o_impl_ywordSum_ok (N : Nat) : FnOk E 118 (o_impl_ywordSum N) := by
  intro R args H K r h
  unfold o_impl_ywordSum at h
  dsimp only at h
  split at h
  · exact fnB_ok (ids := [0]) (top := [0]) ok (O_impl_ywordSum_ok N) (jn_ok _ _ _) Go.Proofs.Try.func118 (by kernel_rfl) (IT := IT_impl_ywordSum_0 N) (sl := sl_impl_ywordSum) (J := J_impl_ywordSum) (K := K) (H := []) (IT_impl_ywordSum_0_ok N) (by kernel_rfl) rfl ((e_impl_ywordSum N _ K).trans h)
  · cases h
end Go.Sa
