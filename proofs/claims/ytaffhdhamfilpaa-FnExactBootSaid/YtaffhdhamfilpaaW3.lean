import Derived.Test.YtaffhdhamfilpaaSpec
import Derived.Test.YtaffhdhamfilpaaPLb
import Derived.Test.YtaffhdhamfilpaaW2
set_option linter.all false
namespace Go.Sa
open Go Go.Eng Go.Proofs
set_option maxRecDepth 100000
set_option maxHeartbeats 4000000
/-! ### loop.example/g00038/impl.yin -/
abbrev sl_impl_yin : SlotT := []
abbrev J_impl_yin : JT := jn [(1, [(6, .b)])] [] []
noncomputable def O_impl_yin (N : Nat) : Orc E := noFn
theorem O_impl_yin_ok (N : Nat) : OrcOk (O_impl_yin N) := noFn_ok
noncomputable def g_impl_yin (N : Nat) {R : Type} (n : Int) (n1 : Int) (n2 : Int) (k : Bool → Option R) : Option R :=
  (oK (cond (decide ((n ≥ n1)))
    (some (decide ((n ≤ n2))))
    (some false)) fun j =>
  (k j))
theorem e_impl_yin (N : Nat) {R : Type} (n : Int) (n1 : Int) (n2 : Int) (K : AV → Hp E → Option R) :
    runFnI (E := E) (O_impl_yin N) (noIt) sl_impl_yin J_impl_yin Go.Proofs.Try.f78 [(AV.sc (SV.int IntKind.i64 n)), (AV.sc (SV.int IntKind.i64 n1)), (AV.sc (SV.int IntKind.i64 n2))] [] K =
      g_impl_yin N n n1 n2 (fun b => K (AV.sc (SV.bool b)) []) := by kernel_rfl
noncomputable def o_impl_yin (N : Nat) {R : Type} (args : List AV) (H : Hp E) (K : AV → Hp E → Option R) : Option R :=
  match args, H with
  | [(AV.sc (SV.int IntKind.i64 n)), (AV.sc (SV.int IntKind.i64 n1)), (AV.sc (SV.int IntKind.i64 n2))], [] => g_impl_yin N n n1 n2 (fun b => K (AV.sc (SV.bool b)) [])
  | _, _ => none
theorem o_impl_yin_ok (N : Nat) : FnOk E 78 (o_impl_yin N) := by
  intro R args H K r h
  unfold o_impl_yin at h
  dsimp only at h
  split at h
  · exact fnB_ok (ids := []) (top := []) ok (O_impl_yin_ok N) (jn_ok _ _ _) Go.Proofs.Try.func78 (by kernel_rfl) (IT := noIt) (sl := sl_impl_yin) (J := J_impl_yin) (K := K) (H := []) (noIt_ok) (by kernel_rfl) rfl ((e_impl_yin N _ _ _ K).trans h)
  · cases h
/-! ### loop.example/g00038/impl.BoardFault -/
abbrev sl_impl_BoardFault_r : SlotT := [(0, ([1, 22, 23, 24], [2]))]
abbrev J_impl_BoardFault_r : JT := jn [(1, [(20, .b)]), (6, [(60, .b)])] [] []
noncomputable def O_impl_BoardFault_r (N : Nat) : Orc E := addFn 78 (o_impl_yin N) (noFn)
noncomputable def pa_impl_BoardFault_r__o_impl_yin (N : Nat) (G_impl_yin : ∀ {R : Type} (n : Int) (n1 : Int) (n2 : Int) (k : Bool → Option R), Option R) {R : Type} (args : List AV) (H : Hp E) (K : AV → Hp E → Option R) : Option R :=
  match args, H with
  | [(AV.sc (SV.int IntKind.i64 n)), (AV.sc (SV.int IntKind.i64 n1)), (AV.sc (SV.int IntKind.i64 n2))], [] => G_impl_yin n n1 n2 (fun b => K (AV.sc (SV.bool b)) [])
  | _, _ => none
noncomputable def OA_impl_BoardFault_r (N : Nat) (G_impl_yin : ∀ {R : Type} (n : Int) (n1 : Int) (n2 : Int) (k : Bool → Option R), Option R) : Orc E := addFn 78 (pa_impl_BoardFault_r__o_impl_yin N G_impl_yin) (noFn)
theorem O_impl_BoardFault_r_ok (N : Nat) : OrcOk (O_impl_BoardFault_r N) := addFn_ok (o_impl_yin_ok N) (noFn_ok)
noncomputable def s_impl_BoardFault_r_0 (N : Nat) {R : Type} (b3 : Bool) (n2 : Int) (l1 : List Device) (n4 : Int) (n5 : Int) (b4 : Bool) (n3 : Int) (ag : Int → Option R)  (kR : Option R) (kN : Option R) : Option R :=
  (cond (decide ((n3 < n2)))
  (cond ((decide (((0 : Int) ≤ n3))) && (decide ((n3 < (((List.length l1) : Nat) : Int)))))
    (elemK l1 (Int.toNat n3) fun x =>
      (oK (g_impl_yin N (Device.fKind x) (1 : Int) (255 : Int) fun b5 =>
        (cond (!b5)
        (some true)
        (g_impl_yin N (Device.fPort x) (0 : Int) (2047 : Int) fun b6 =>
          (cond (!b6)
          (some true)
          (g_impl_yin N (Device.fLine x) (0 : Int) (6 : Int) fun b7 =>
            (cond (!b7)
            (some true)
            (cond (decide ((n3 > (0 : Int))))
              (cond ((decide (((0 : Int) ≤ (IntKind.wrap IntKind.i64 (n3 - (1 : Int)))))) && (decide (((IntKind.wrap IntKind.i64 (n3 - (1 : Int))) < (((List.length l1) : Nat) : Int)))))
                (elemK l1 (Int.toNat (IntKind.wrap IntKind.i64 (n3 - (1 : Int)))) fun x1 =>
                  (some (decide (((Device.fPort x1) ≥ (Device.fPort x))))))
                none)
              (some false)))))))) fun j1 =>
      (cond j1
      kR
      (ag (IntKind.wrap IntKind.i64 (n3 + (1 : Int)))))))
    none)
  kN)
noncomputable def ga_s_impl_BoardFault_r_0 (N : Nat) (G_impl_yin : ∀ {R : Type} (n : Int) (n1 : Int) (n2 : Int) (k : Bool → Option R), Option R) {R : Type} (b3 : Bool) (n2 : Int) (l1 : List Device) (n4 : Int) (n5 : Int) (b4 : Bool) (n3 : Int) (ag : Int → Option R)  (kR : Option R) (kN : Option R) : Option R :=
  (cond (decide ((n3 < n2)))
  (cond ((decide (((0 : Int) ≤ n3))) && (decide ((n3 < (((List.length l1) : Nat) : Int)))))
    (elemK l1 (Int.toNat n3) fun x =>
      (oK (G_impl_yin (Device.fKind x) (1 : Int) (255 : Int) fun b5 =>
        (cond (!b5)
        (some true)
        (G_impl_yin (Device.fPort x) (0 : Int) (2047 : Int) fun b6 =>
          (cond (!b6)
          (some true)
          (G_impl_yin (Device.fLine x) (0 : Int) (6 : Int) fun b7 =>
            (cond (!b7)
            (some true)
            (cond (decide ((n3 > (0 : Int))))
              (cond ((decide (((0 : Int) ≤ (IntKind.wrap IntKind.i64 (n3 - (1 : Int)))))) && (decide (((IntKind.wrap IntKind.i64 (n3 - (1 : Int))) < (((List.length l1) : Nat) : Int)))))
                (elemK l1 (Int.toNat (IntKind.wrap IntKind.i64 (n3 - (1 : Int)))) fun x1 =>
                  (some (decide (((Device.fPort x1) ≥ (Device.fPort x))))))
                none)
              (some false)))))))) fun j1 =>
      (cond j1
      kR
      (ag (IntKind.wrap IntKind.i64 (n3 + (1 : Int)))))))
    none)
  kN)
noncomputable def l_impl_BoardFault_r_0 (N : Nat) {R : Type} (b3 : Bool) (n2 : Int) (l1 : List Device) (n4 : Int) (n5 : Int) (b4 : Bool) (kR : Option R) (kN : Option R) : Nat → Int → Option R
  | 0, _ => none
  | f + 1, n3 => s_impl_BoardFault_r_0 N b3 n2 l1 n4 n5 b4 n3 (fun n3 => l_impl_BoardFault_r_0 N b3 n2 l1 n4 n5 b4 kR kN f n3)  kR kN
noncomputable def c_impl_BoardFault_r_0 (N : Nat) {R : Type} (b3 : Bool) (n2 : Int) (l1 : List Device) (n4 : Int) (n5 : Int) (b4 : Bool) (n3 : Int) (kR : Option R) (kN : Option R) : Option R := l_impl_BoardFault_r_0 N b3 n2 l1 n4 n5 b4 kR kN N n3
theorem ea_se_impl_BoardFault_r_0 (N : Nat) (G_impl_yin : ∀ {R : Type} (n : Int) (n1 : Int) (n2 : Int) (k : Bool → Option R), Option R) {R : Type} (b3 : Bool) (n2 : Int) (l1 : List Device) (n4 : Int) (n5 : Int) (b4 : Bool) (n3 : Int) (AG : List (Option AV) → Hp E → Option R) (KL : Ex → List (Option AV) → Hp E → Option R) :
    iterStep (E := E) (OA_impl_BoardFault_r N G_impl_yin) (fun {R} => LI (noIt) 1 62 sl_impl_BoardFault_r (R := R)) J_impl_BoardFault_r 1 62 0 [1, 22, 23, 24] [2] (body Go.Proofs.Try.f89 0) AG KL [(some (AV.sc (SV.ptr 1 0 0))), (some (AV.sc (SV.slc 0 none b3))), (some (AV.sc (SV.int IntKind.i64 n2))), (some (AV.sc (SV.int IntKind.i64 n3)))] [(some (HE.mk true (HB.rows (B.iDevice l1)))), (some (HE.mk false (HB.exp none [(SV.int IntKind.i64 n4), (SV.int IntKind.i64 n5), (SV.slc 0 none b4)])))] =
      ga_s_impl_BoardFault_r_0 N G_impl_yin b3 n2 l1 n4 n5 b4 n3 (fun n3 => AG [(some (AV.sc (SV.ptr 1 0 0))), (some (AV.sc (SV.slc 0 none b3))), (some (AV.sc (SV.int IntKind.i64 n2))), (some (AV.sc (SV.int IntKind.i64 n3)))] [(some (HE.mk true (HB.rows (B.iDevice l1)))), (some (HE.mk false (HB.exp none [(SV.int IntKind.i64 n4), (SV.int IntKind.i64 n5), (SV.slc 0 none b4)])))])  (KL Ex.ret [(some (AV.sc (SV.int IntKind.i64 (1 : Int))))] [(some (HE.mk true (HB.rows (B.iDevice l1))))]) (KL Ex.normal [none] [(some (HE.mk true (HB.rows (B.iDevice l1))))]) := by kernel_rfl
theorem se_impl_BoardFault_r_0 (N : Nat) {R : Type} (b3 : Bool) (n2 : Int) (l1 : List Device) (n4 : Int) (n5 : Int) (b4 : Bool) (n3 : Int) (AG : List (Option AV) → Hp E → Option R) (KL : Ex → List (Option AV) → Hp E → Option R) :
    iterStep (E := E) (O_impl_BoardFault_r N) (fun {R} => LI (noIt) 1 62 sl_impl_BoardFault_r (R := R)) J_impl_BoardFault_r 1 62 0 [1, 22, 23, 24] [2] (body Go.Proofs.Try.f89 0) AG KL [(some (AV.sc (SV.ptr 1 0 0))), (some (AV.sc (SV.slc 0 none b3))), (some (AV.sc (SV.int IntKind.i64 n2))), (some (AV.sc (SV.int IntKind.i64 n3)))] [(some (HE.mk true (HB.rows (B.iDevice l1)))), (some (HE.mk false (HB.exp none [(SV.int IntKind.i64 n4), (SV.int IntKind.i64 n5), (SV.slc 0 none b4)])))] =
      s_impl_BoardFault_r_0 N b3 n2 l1 n4 n5 b4 n3 (fun n3 => AG [(some (AV.sc (SV.ptr 1 0 0))), (some (AV.sc (SV.slc 0 none b3))), (some (AV.sc (SV.int IntKind.i64 n2))), (some (AV.sc (SV.int IntKind.i64 n3)))] [(some (HE.mk true (HB.rows (B.iDevice l1)))), (some (HE.mk false (HB.exp none [(SV.int IntKind.i64 n4), (SV.int IntKind.i64 n5), (SV.slc 0 none b4)])))])  (KL Ex.ret [(some (AV.sc (SV.int IntKind.i64 (1 : Int))))] [(some (HE.mk true (HB.rows (B.iDevice l1))))]) (KL Ex.normal [none] [(some (HE.mk true (HB.rows (B.iDevice l1))))]) := castPr (by kernel_rfl) (ea_se_impl_BoardFault_r_0 N (g_impl_yin N) b3 n2 l1 n4 n5 b4 n3 AG KL)
theorem le_impl_BoardFault_r_0 (N : Nat) {R : Type} (b3 : Bool) (n2 : Int) (l1 : List Device) (n4 : Int) (n5 : Int) (b4 : Bool) (KL : Ex → List (Option AV) → Hp E → Option R) : ∀ (f : Nat), ∀ (n3 : Int), iterK (E := E) (O_impl_BoardFault_r N) (fun {R} => LI (noIt) 1 62 sl_impl_BoardFault_r (R := R)) J_impl_BoardFault_r 1 62 0 [1, 22, 23, 24] [2] (body Go.Proofs.Try.f89 0) f [(some (AV.sc (SV.ptr 1 0 0))), (some (AV.sc (SV.slc 0 none b3))), (some (AV.sc (SV.int IntKind.i64 n2))), (some (AV.sc (SV.int IntKind.i64 n3)))] [(some (HE.mk true (HB.rows (B.iDevice l1)))), (some (HE.mk false (HB.exp none [(SV.int IntKind.i64 n4), (SV.int IntKind.i64 n5), (SV.slc 0 none b4)])))] KL = l_impl_BoardFault_r_0 N b3 n2 l1 n4 n5 b4 (KL Ex.ret [(some (AV.sc (SV.int IntKind.i64 (1 : Int))))] [(some (HE.mk true (HB.rows (B.iDevice l1))))]) (KL Ex.normal [none] [(some (HE.mk true (HB.rows (B.iDevice l1))))]) f n3 := by
  intro f
  induction f with
  | zero => intros; rfl
  | succ f ih =>
    intro n3
    rw [iterK_succ, se_impl_BoardFault_r_0]
    exact (congrArg (fun z0 => s_impl_BoardFault_r_0 N b3 n2 l1 n4 n5 b4 n3 z0 (KL Ex.ret [(some (AV.sc (SV.int IntKind.i64 (1 : Int))))] [(some (HE.mk true (HB.rows (B.iDevice l1))))]) (KL Ex.normal [none] [(some (HE.mk true (HB.rows (B.iDevice l1))))])) (funext fun n3 => ih n3))
noncomputable def i_impl_BoardFault_r_0 (N : Nat) {R : Type} (vs : List (Option AV)) (H : Hp E) (KL : Ex → List (Option AV) → Hp E → Option R) : Option R :=
  match vs, H with
  | [(some (AV.sc (SV.ptr 1 0 0))), (some (AV.sc (SV.slc 0 none b3))), (some (AV.sc (SV.int IntKind.i64 n2))), (some (AV.sc (SV.int IntKind.i64 n3)))], [(some (HE.mk true (HB.rows (B.iDevice l1)))), (some (HE.mk false (HB.exp none [(SV.int IntKind.i64 n4), (SV.int IntKind.i64 n5), (SV.slc 0 none b4)])))] => c_impl_BoardFault_r_0 N b3 n2 l1 n4 n5 b4 n3 (KL Ex.ret [(some (AV.sc (SV.int IntKind.i64 (1 : Int))))] [(some (HE.mk true (HB.rows (B.iDevice l1))))]) (KL Ex.normal [none] [(some (HE.mk true (HB.rows (B.iDevice l1))))])
  | _, _ => none
noncomputable def IT_impl_BoardFault_r_0 (N : Nat) : Its E := addIt 0 (i_impl_BoardFault_r_0 N) (noIt)
theorem IT_impl_BoardFault_r_0_ok (N : Nat) : ItOk (IT_impl_BoardFault_r_0 N) 1 62 sl_impl_BoardFault_r (lsB Go.Proofs.Try.f89 [0]) :=
  addItB_ok (inner := []) ok (O_impl_BoardFault_r_ok N) (jn_ok _ _ _) (noIt_ok) rfl (by kernel_rfl) rfl fun vs H KL r h => by
    unfold i_impl_BoardFault_r_0 at h
    split at h
    · exact ⟨_, (le_impl_BoardFault_r_0 N _ _ _ _ _ _ KL N _).trans h⟩
    · cases h
noncomputable def g_impl_BoardFault_r (N : Nat) {R : Type} (n : Int) (n1 : Int) (b : Bool) (l : List Device) (k : Int → Option R) : Option R :=
  (oK (g_impl_yin N n (2 : Int) (256 : Int) fun b1 =>
    (cond (!b1)
    (some true)
    (g_impl_yin N n1 (1 : Int) (8 : Int) fun b2 =>
      (cond (!b2)
      (some true)
      (some (decide (((((List.length l) : Nat) : Int) > (16 : Int))))))))) fun j =>
  (cond j
  (k (1 : Int))
  (c_impl_BoardFault_r_0 N b (((List.length l) : Nat) : Int) l n n1 b (0 : Int) (
    (k (1 : Int))) (
    (k (0 : Int))))))
noncomputable def ga_g_impl_BoardFault_r (N : Nat) (G_impl_yin : ∀ {R : Type} (n : Int) (n1 : Int) (n2 : Int) (k : Bool → Option R), Option R) {R : Type} (n : Int) (n1 : Int) (b : Bool) (l : List Device) (k : Int → Option R) : Option R :=
  (oK (G_impl_yin n (2 : Int) (256 : Int) fun b1 =>
    (cond (!b1)
    (some true)
    (G_impl_yin n1 (1 : Int) (8 : Int) fun b2 =>
      (cond (!b2)
      (some true)
      (some (decide (((((List.length l) : Nat) : Int) > (16 : Int))))))))) fun j =>
  (cond j
  (k (1 : Int))
  (c_impl_BoardFault_r_0 N b (((List.length l) : Nat) : Int) l n n1 b (0 : Int) (
    (k (1 : Int))) (
    (k (0 : Int))))))
theorem ea_e_impl_BoardFault_r (N : Nat) (G_impl_yin : ∀ {R : Type} (n : Int) (n1 : Int) (n2 : Int) (k : Bool → Option R), Option R) {R : Type} (n : Int) (n1 : Int) (b : Bool) (l : List Device) (K : AV → Hp E → Option R) :
    runFnI (E := E) (OA_impl_BoardFault_r N G_impl_yin) (IT_impl_BoardFault_r_0 N) sl_impl_BoardFault_r J_impl_BoardFault_r Go.Proofs.Try.f89 [(AV.agg [(SV.int IntKind.i64 n), (SV.int IntKind.i64 n1), (SV.slc 0 none b)])] [(some (HE.mk true (HB.rows (B.iDevice l))))] K =
      ga_g_impl_BoardFault_r N G_impl_yin n n1 b l (fun n6 => K (AV.sc (SV.int IntKind.i64 n6)) [(some (HE.mk true (HB.rows (B.iDevice l))))]) := by kernel_rfl
theorem e_impl_BoardFault_r (N : Nat) {R : Type} (n : Int) (n1 : Int) (b : Bool) (l : List Device) (K : AV → Hp E → Option R) :
    runFnI (E := E) (O_impl_BoardFault_r N) (IT_impl_BoardFault_r_0 N) sl_impl_BoardFault_r J_impl_BoardFault_r Go.Proofs.Try.f89 [(AV.agg [(SV.int IntKind.i64 n), (SV.int IntKind.i64 n1), (SV.slc 0 none b)])] [(some (HE.mk true (HB.rows (B.iDevice l))))] K =
      g_impl_BoardFault_r N n n1 b l (fun n6 => K (AV.sc (SV.int IntKind.i64 n6)) [(some (HE.mk true (HB.rows (B.iDevice l))))]) := castPr (by kernel_rfl) (ea_e_impl_BoardFault_r N (g_impl_yin N) n n1 b l K)
noncomputable def o_impl_BoardFault_r (N : Nat) {R : Type} (args : List AV) (H : Hp E) (K : AV → Hp E → Option R) : Option R :=
  match args, H with
  | [(AV.agg [(SV.int IntKind.i64 n), (SV.int IntKind.i64 n1), (SV.slc 0 none b)])], [(some (HE.mk true (HB.rows (B.iDevice l))))] => g_impl_BoardFault_r N n n1 b l (fun n6 => K (AV.sc (SV.int IntKind.i64 n6)) [(some (HE.mk true (HB.rows (B.iDevice l))))])
  | _, _ => none
theorem o_impl_BoardFault_r_ok (N : Nat) : FnOk E 89 (o_impl_BoardFault_r N) := by
  intro R args H K r h
  unfold o_impl_BoardFault_r at h
  dsimp only at h
  split at h
  · exact fnB_ok (ids := [0]) (top := [0]) ok (O_impl_BoardFault_r_ok N) (jn_ok _ _ _) Go.Proofs.Try.func89 (by kernel_rfl) (IT := IT_impl_BoardFault_r_0 N) (sl := sl_impl_BoardFault_r) (J := J_impl_BoardFault_r) (K := K) (H := [(some (HE.mk true (HB.rows (B.iDevice _))))]) (IT_impl_BoardFault_r_0_ok N) (by kernel_rfl) rfl ((e_impl_BoardFault_r N _ _ _ _ K).trans h)
  · cases h
/-! ### internal/stringslite.HasPrefix -/
abbrev sl_internal_stringslite_HasPrefix : SlotT := []
abbrev J_internal_stringslite_HasPrefix : JT := jn [(1, [(4, .b)])] [] []
noncomputable def O_internal_stringslite_HasPrefix (N : Nat) : Orc E := noFn
theorem O_internal_stringslite_HasPrefix_ok (N : Nat) : OrcOk (O_internal_stringslite_HasPrefix N) := noFn_ok
noncomputable def g_internal_stringslite_HasPrefix (N : Nat) {R : Type} (s : ByteArray) (s1 : ByteArray) (k : Bool → Option R) : Option R :=
  (oK (cond (decide (((((ByteArray.size s) : Nat) : Int) ≥ (((ByteArray.size s1) : Nat) : Int))))
    (cond (decide (((((ByteArray.size s1) : Nat) : Int) ≤ (((ByteArray.size s) : Nat) : Int))))
      (some (decide (((ByteArray.extract s 0 (Int.toNat (((ByteArray.size s1) : Nat) : Int))) = s1))))
      none)
    (some false)) fun j =>
  (k j))
theorem e_internal_stringslite_HasPrefix (N : Nat) {R : Type} (s : ByteArray) (s1 : ByteArray) (K : AV → Hp E → Option R) :
    runFnI (E := E) (O_internal_stringslite_HasPrefix N) (noIt) sl_internal_stringslite_HasPrefix J_internal_stringslite_HasPrefix Go.Proofs.Try.f111 [(AV.sc (SV.str s)), (AV.sc (SV.str s1))] [] K =
      g_internal_stringslite_HasPrefix N s s1 (fun b => K (AV.sc (SV.bool b)) []) := by kernel_rfl
noncomputable def o_internal_stringslite_HasPrefix (N : Nat) {R : Type} (args : List AV) (H : Hp E) (K : AV → Hp E → Option R) : Option R :=
  match args, H with
  | [(AV.sc (SV.str s)), (AV.sc (SV.str s1))], [] => g_internal_stringslite_HasPrefix N s s1 (fun b => K (AV.sc (SV.bool b)) [])
  | _, _ => none
theorem o_internal_stringslite_HasPrefix_ok (N : Nat) : FnOk E 111 (o_internal_stringslite_HasPrefix N) := by
  intro R args H K r h
  unfold o_internal_stringslite_HasPrefix at h
  dsimp only at h
  split at h
  · exact fnB_ok (ids := []) (top := []) ok (O_internal_stringslite_HasPrefix_ok N) (jn_ok _ _ _) Go.Proofs.Try.func111 (by kernel_rfl) (IT := noIt) (sl := sl_internal_stringslite_HasPrefix) (J := J_internal_stringslite_HasPrefix) (K := K) (H := []) (noIt_ok) (by kernel_rfl) rfl ((e_internal_stringslite_HasPrefix N _ _ K).trans h)
  · cases h
/-! ### strings.HasPrefix -/
abbrev sl_strings_HasPrefix : SlotT := []
abbrev J_strings_HasPrefix : JT := jn [] [] []
noncomputable def O_strings_HasPrefix (N : Nat) : Orc E := addFn 111 (o_internal_stringslite_HasPrefix N) (noFn)
theorem O_strings_HasPrefix_ok (N : Nat) : OrcOk (O_strings_HasPrefix N) := addFn_ok (o_internal_stringslite_HasPrefix_ok N) (noFn_ok)
noncomputable def g_strings_HasPrefix (N : Nat) {R : Type} (s : ByteArray) (s1 : ByteArray) (k : Bool → Option R) : Option R :=
  (g_internal_stringslite_HasPrefix N s s1 fun b =>
  (k b))
theorem e_strings_HasPrefix (N : Nat) {R : Type} (s : ByteArray) (s1 : ByteArray) (K : AV → Hp E → Option R) :
    runFnI (E := E) (O_strings_HasPrefix N) (noIt) sl_strings_HasPrefix J_strings_HasPrefix Go.Proofs.Try.f90 [(AV.sc (SV.str s)), (AV.sc (SV.str s1))] [] K =
      g_strings_HasPrefix N s s1 (fun b1 => K (AV.sc (SV.bool b1)) []) := by kernel_rfl
noncomputable def o_strings_HasPrefix (N : Nat) {R : Type} (args : List AV) (H : Hp E) (K : AV → Hp E → Option R) : Option R :=
  match args, H with
  | [(AV.sc (SV.str s)), (AV.sc (SV.str s1))], [] => g_strings_HasPrefix N s s1 (fun b1 => K (AV.sc (SV.bool b1)) [])
  | _, _ => none
theorem o_strings_HasPrefix_ok (N : Nat) : FnOk E 90 (o_strings_HasPrefix N) := by
  intro R args H K r h
  unfold o_strings_HasPrefix at h
  dsimp only at h
  split at h
  · exact fnB_ok (ids := []) (top := []) ok (O_strings_HasPrefix_ok N) (jn_ok _ _ _) Go.Proofs.Try.func90 (by kernel_rfl) (IT := noIt) (sl := sl_strings_HasPrefix) (J := J_strings_HasPrefix) (K := K) (H := []) (noIt_ok) (by kernel_rfl) rfl ((e_strings_HasPrefix N _ _ K).trans h)
  · cases h
/-! ### loop.example/g00038/impl.ywordAt -/
abbrev sl_impl_ywordAt : SlotT := []
abbrev J_impl_ywordAt : JT := jn [] [] []
noncomputable def O_impl_ywordAt (N : Nat) : Orc E := noFn
theorem O_impl_ywordAt_ok (N : Nat) : OrcOk (O_impl_ywordAt N) := noFn_ok
noncomputable def g_impl_ywordAt (N : Nat) {R : Type} (s : ByteArray) (n : Int) (k : Int → Option R) : Option R :=
  (cond ((decide (((0 : Int) ≤ n))) && (decide ((n < (((ByteArray.size s) : Nat) : Int)))))
  (cond ((decide (((0 : Int) ≤ (IntKind.wrap IntKind.i64 (n + (1 : Int)))))) && (decide (((IntKind.wrap IntKind.i64 (n + (1 : Int))) < (((ByteArray.size s) : Nat) : Int)))))
    (cond ((decide (((0 : Int) ≤ (IntKind.wrap IntKind.i64 (n + (2 : Int)))))) && (decide (((IntKind.wrap IntKind.i64 (n + (2 : Int))) < (((ByteArray.size s) : Nat) : Int)))))
      (cond ((decide (((0 : Int) ≤ (IntKind.wrap IntKind.i64 (n + (3 : Int)))))) && (decide (((IntKind.wrap IntKind.i64 (n + (3 : Int))) < (((ByteArray.size s) : Nat) : Int)))))
        (k (IntKind.wrap IntKind.i64 (((BitVec.toNat ((BitVec.ofInt 64 (IntKind.wrap IntKind.i64 (((BitVec.toNat ((BitVec.ofInt 64 (IntKind.wrap IntKind.i64 (((BitVec.toNat ((BitVec.ofInt 64 (IntKind.wrap IntKind.i64 (Go.Eng.bt s (Int.toNat n)))) ||| (BitVec.ofInt 64 (IntKind.wrap IntKind.i64 ((IntKind.wrap IntKind.i64 (Go.Eng.bt s (Int.toNat (IntKind.wrap IntKind.i64 (n + (1 : Int)))))) * (256 : Int)))))) : Nat) : Int))) ||| (BitVec.ofInt 64 (IntKind.wrap IntKind.i64 ((IntKind.wrap IntKind.i64 (Go.Eng.bt s (Int.toNat (IntKind.wrap IntKind.i64 (n + (2 : Int)))))) * (65536 : Int)))))) : Nat) : Int))) ||| (BitVec.ofInt 64 (IntKind.wrap IntKind.i64 ((IntKind.wrap IntKind.i64 (Go.Eng.bt s (Int.toNat (IntKind.wrap IntKind.i64 (n + (3 : Int)))))) * (16777216 : Int)))))) : Nat) : Int)))
        none)
      none)
    none)
  none)
theorem e_impl_ywordAt (N : Nat) {R : Type} (s : ByteArray) (n : Int) (K : AV → Hp E → Option R) :
    runFnI (E := E) (O_impl_ywordAt N) (noIt) sl_impl_ywordAt J_impl_ywordAt Go.Proofs.Try.f91 [(AV.sc (SV.str s)), (AV.sc (SV.int IntKind.i64 n))] [] K =
      g_impl_ywordAt N s n (fun n1 => K (AV.sc (SV.int IntKind.i64 n1)) []) := by kernel_rfl
noncomputable def o_impl_ywordAt (N : Nat) {R : Type} (args : List AV) (H : Hp E) (K : AV → Hp E → Option R) : Option R :=
  match args, H with
  | [(AV.sc (SV.str s)), (AV.sc (SV.int IntKind.i64 n))], [] => g_impl_ywordAt N s n (fun n1 => K (AV.sc (SV.int IntKind.i64 n1)) [])
  | _, _ => none
theorem o_impl_ywordAt_ok (N : Nat) : FnOk E 91 (o_impl_ywordAt N) := by
  intro R args H K r h
  unfold o_impl_ywordAt at h
  dsimp only at h
  split at h
  · exact fnB_ok (ids := []) (top := []) ok (O_impl_ywordAt_ok N) (jn_ok _ _ _) Go.Proofs.Try.func91 (by kernel_rfl) (IT := noIt) (sl := sl_impl_ywordAt) (J := J_impl_ywordAt) (K := K) (H := []) (noIt_ok) (by kernel_rfl) rfl ((e_impl_ywordAt N _ _ K).trans h)
  · cases h
/-! ### loop.example/g00038/impl.yfits -/
abbrev sl_impl_yfits : SlotT := []
abbrev J_impl_yfits : JT := jn [(1, [(6, .b)])] [] []
noncomputable def O_impl_yfits (N : Nat) : Orc E := noFn
theorem O_impl_yfits_ok (N : Nat) : OrcOk (O_impl_yfits N) := noFn_ok
noncomputable def g_impl_yfits (N : Nat) {R : Type} (n : Int) (n1 : Int) (n2 : Int) (k : Bool → Option R) : Option R :=
  (oK (cond (decide ((n1 ≥ (0 : Int))))
    (cond (decide ((n2 ≥ (0 : Int))))
      (cond (decide ((n1 ≤ n)))
        (some (decide ((n2 ≤ (IntKind.wrap IntKind.i64 (n - n1))))))
        (some false))
      (some false))
    (some false)) fun j =>
  (k j))
theorem e_impl_yfits (N : Nat) {R : Type} (n : Int) (n1 : Int) (n2 : Int) (K : AV → Hp E → Option R) :
    runFnI (E := E) (O_impl_yfits N) (noIt) sl_impl_yfits J_impl_yfits Go.Proofs.Try.f92 [(AV.sc (SV.int IntKind.i64 n)), (AV.sc (SV.int IntKind.i64 n1)), (AV.sc (SV.int IntKind.i64 n2))] [] K =
      g_impl_yfits N n n1 n2 (fun b => K (AV.sc (SV.bool b)) []) := by kernel_rfl
noncomputable def o_impl_yfits (N : Nat) {R : Type} (args : List AV) (H : Hp E) (K : AV → Hp E → Option R) : Option R :=
  match args, H with
  | [(AV.sc (SV.int IntKind.i64 n)), (AV.sc (SV.int IntKind.i64 n1)), (AV.sc (SV.int IntKind.i64 n2))], [] => g_impl_yfits N n n1 n2 (fun b => K (AV.sc (SV.bool b)) [])
  | _, _ => none
theorem o_impl_yfits_ok (N : Nat) : FnOk E 92 (o_impl_yfits N) := by
  intro R args H K r h
  unfold o_impl_yfits at h
  dsimp only at h
  split at h
  · exact fnB_ok (ids := []) (top := []) ok (O_impl_yfits_ok N) (jn_ok _ _ _) Go.Proofs.Try.func92 (by kernel_rfl) (IT := noIt) (sl := sl_impl_yfits) (J := J_impl_yfits) (K := K) (H := []) (noIt_ok) (by kernel_rfl) rfl ((e_impl_yfits N _ _ _ K).trans h)
  · cases h
/-! ### loop.example/g00038/impl.ymod -/
abbrev sl_impl_ymod : SlotT := []
abbrev J_impl_ymod : JT := jn [] [(9, [(0, .i .i64)])] []
noncomputable def O_impl_ymod (N : Nat) : Orc E := noFn
theorem O_impl_ymod_ok (N : Nat) : OrcOk (O_impl_ymod N) := noFn_ok
noncomputable def g_impl_ymod (N : Nat) {R : Type} (n : Int) (n1 : Int) (k : Int → Option R) : Option R :=
  (cond (n1 == (0 : Int))
  none
  (oK (cond (decide (((Int.tmod n n1) < (0 : Int))))
      (some (IntKind.wrap IntKind.i64 ((Int.tmod n n1) + n1)))
      (some (Int.tmod n n1))) fun j =>
    (k j)))
theorem e_impl_ymod (N : Nat) {R : Type} (n : Int) (n1 : Int) (K : AV → Hp E → Option R) :
    runFnI (E := E) (O_impl_ymod N) (noIt) sl_impl_ymod J_impl_ymod Go.Proofs.Try.f81 [(AV.sc (SV.int IntKind.i64 n)), (AV.sc (SV.int IntKind.i64 n1))] [] K =
      g_impl_ymod N n n1 (fun n2 => K (AV.sc (SV.int IntKind.i64 n2)) []) := by kernel_rfl
noncomputable def o_impl_ymod (N : Nat) {R : Type} (args : List AV) (H : Hp E) (K : AV → Hp E → Option R) : Option R :=
  match args, H with
  | [(AV.sc (SV.int IntKind.i64 n)), (AV.sc (SV.int IntKind.i64 n1))], [] => g_impl_ymod N n n1 (fun n2 => K (AV.sc (SV.int IntKind.i64 n2)) [])
  | _, _ => none
theorem o_impl_ymod_ok (N : Nat) : FnOk E 81 (o_impl_ymod N) := by
  intro R args H K r h
  unfold o_impl_ymod at h
  dsimp only at h
  split at h
  · exact fnB_ok (ids := []) (top := []) ok (O_impl_ymod_ok N) (jn_ok _ _ _) Go.Proofs.Try.func81 (by kernel_rfl) (IT := noIt) (sl := sl_impl_ymod) (J := J_impl_ymod) (K := K) (H := []) (noIt_ok) (by kernel_rfl) rfl ((e_impl_ymod N _ _ K).trans h)
  · cases h
/-! ### loop.example/g00038/impl.ymix -/
abbrev sl_impl_ymix : SlotT := [(0, ([0, 5, 11, 12], [5]))]
abbrev J_impl_ymix : JT := jn [] [] []
noncomputable def O_impl_ymix (N : Nat) : Orc E := addFn 81 (o_impl_ymod N) (noFn)
theorem O_impl_ymix_ok (N : Nat) : OrcOk (O_impl_ymix N) := addFn_ok (o_impl_ymod_ok N) (noFn_ok)
noncomputable def s_impl_ymix_0 (N : Nat) {R : Type} (s1 : ByteArray) (n3 : Int) (n2 : Int) (n4 : Int) (ag : Int → Int → Option R)  (kN : Int → Option R) : Option R :=
  (cond (decide ((n4 < n3)))
  (cond ((decide (((0 : Int) ≤ n4))) && (decide ((n4 < (((ByteArray.size s1) : Nat) : Int)))))
    (ag (Int.tmod (IntKind.wrap IntKind.i64 ((IntKind.wrap IntKind.i64 ((IntKind.wrap IntKind.i64 (n2 * (65599 : Int))) + (IntKind.wrap IntKind.i64 (Go.Eng.bt s1 (Int.toNat n4))))) + (1 : Int))) (2147483629 : Int)) (IntKind.wrap IntKind.i64 (n4 + (1 : Int))))
    none)
  (kN n2))
noncomputable def l_impl_ymix_0 (N : Nat) {R : Type} (s1 : ByteArray) (n3 : Int) (kN : Int → Option R) : Nat → Int → Int → Option R
  | 0, _, _ => none
  | f + 1, n2, n4 => s_impl_ymix_0 N s1 n3 n2 n4 (fun n2 n4 => l_impl_ymix_0 N s1 n3 kN f n2 n4)  kN
noncomputable def c_impl_ymix_0 (N : Nat) {R : Type} (s1 : ByteArray) (n3 : Int) (n2 : Int) (n4 : Int) (kN : Int → Option R) : Option R := l_impl_ymix_0 N s1 n3 kN N n2 n4
theorem se_impl_ymix_0 (N : Nat) {R : Type} (s1 : ByteArray) (n3 : Int) (n2 : Int) (n4 : Int) (AG : List (Option AV) → Hp E → Option R) (KL : Ex → List (Option AV) → Hp E → Option R) :
    iterStep (E := E) (O_impl_ymix N) (fun {R} => LI (noIt) 0 29 sl_impl_ymix (R := R)) J_impl_ymix 0 29 0 [0, 5, 11, 12] [5] (body Go.Proofs.Try.f44 0) AG KL [(some (AV.sc (SV.str s1))), (some (AV.sc (SV.int IntKind.i64 n2))), (some (AV.sc (SV.int IntKind.i64 n3))), (some (AV.sc (SV.int IntKind.i64 n4)))] [] =
      s_impl_ymix_0 N s1 n3 n2 n4 (fun n2 n4 => AG [(some (AV.sc (SV.str s1))), (some (AV.sc (SV.int IntKind.i64 n2))), (some (AV.sc (SV.int IntKind.i64 n3))), (some (AV.sc (SV.int IntKind.i64 n4)))] [])  (fun n7 => KL Ex.normal [(some (AV.sc (SV.int IntKind.i64 n7)))] []) := by kernel_rfl
theorem le_impl_ymix_0 (N : Nat) {R : Type} (s1 : ByteArray) (n3 : Int) (KL : Ex → List (Option AV) → Hp E → Option R) : ∀ (f : Nat), ∀ (n2 : Int) (n4 : Int), iterK (E := E) (O_impl_ymix N) (fun {R} => LI (noIt) 0 29 sl_impl_ymix (R := R)) J_impl_ymix 0 29 0 [0, 5, 11, 12] [5] (body Go.Proofs.Try.f44 0) f [(some (AV.sc (SV.str s1))), (some (AV.sc (SV.int IntKind.i64 n2))), (some (AV.sc (SV.int IntKind.i64 n3))), (some (AV.sc (SV.int IntKind.i64 n4)))] [] KL = l_impl_ymix_0 N s1 n3 (fun n7 => KL Ex.normal [(some (AV.sc (SV.int IntKind.i64 n7)))] []) f n2 n4 := by
  intro f
  induction f with
  | zero => intros; rfl
  | succ f ih =>
    intro n2 n4
    rw [iterK_succ, se_impl_ymix_0]
    exact (congrArg (fun z0 => s_impl_ymix_0 N s1 n3 n2 n4 z0 (fun n7 => KL Ex.normal [(some (AV.sc (SV.int IntKind.i64 n7)))] [])) (funext fun n2 => funext fun n4 => ih n2 n4))
noncomputable def i_impl_ymix_0 (N : Nat) {R : Type} (vs : List (Option AV)) (H : Hp E) (KL : Ex → List (Option AV) → Hp E → Option R) : Option R :=
  match vs, H with
  | [(some (AV.sc (SV.str s1))), (some (AV.sc (SV.int IntKind.i64 n2))), (some (AV.sc (SV.int IntKind.i64 n3))), (some (AV.sc (SV.int IntKind.i64 n4)))], [] => c_impl_ymix_0 N s1 n3 n2 n4 (fun n8 => KL Ex.normal [(some (AV.sc (SV.int IntKind.i64 n8)))] [])
  | _, _ => none
noncomputable def IT_impl_ymix_0 (N : Nat) : Its E := addIt 0 (i_impl_ymix_0 N) (noIt)
theorem IT_impl_ymix_0_ok (N : Nat) : ItOk (IT_impl_ymix_0 N) 0 29 sl_impl_ymix (lsB Go.Proofs.Try.f44 [0]) :=
  addItB_ok (inner := []) ok (O_impl_ymix_ok N) (jn_ok _ _ _) (noIt_ok) rfl (by kernel_rfl) rfl fun vs H KL r h => by
    unfold i_impl_ymix_0 at h
    split at h
    · exact ⟨_, (le_impl_ymix_0 N _ _ KL N _ _).trans h⟩
    · cases h
noncomputable def g_impl_ymix (N : Nat) {R : Type} (s : ByteArray) (n : Int) (k : Int → Option R) : Option R :=
  (g_impl_ymod N n (2147483629 : Int) fun n1 =>
  (c_impl_ymix_0 N s (((ByteArray.size s) : Nat) : Int) (IntKind.wrap IntKind.i64 (n1 + (1 : Int))) (0 : Int) fun n5 =>
  (k (Int.tmod (IntKind.wrap IntKind.i64 ((IntKind.wrap IntKind.i64 (n5 * (40503 : Int))) + (77 : Int))) (2147483629 : Int)))))
theorem e_impl_ymix (N : Nat) {R : Type} (s : ByteArray) (n : Int) (K : AV → Hp E → Option R) :
    runFnI (E := E) (O_impl_ymix N) (IT_impl_ymix_0 N) sl_impl_ymix J_impl_ymix Go.Proofs.Try.f44 [(AV.sc (SV.str s)), (AV.sc (SV.int IntKind.i64 n))] [] K =
      g_impl_ymix N s n (fun n6 => K (AV.sc (SV.int IntKind.i64 n6)) []) := by kernel_rfl
noncomputable def o_impl_ymix (N : Nat) {R : Type} (args : List AV) (H : Hp E) (K : AV → Hp E → Option R) : Option R :=
  match args, H with
  | [(AV.sc (SV.str s)), (AV.sc (SV.int IntKind.i64 n))], [] => g_impl_ymix N s n (fun n6 => K (AV.sc (SV.int IntKind.i64 n6)) [])
  | _, _ => none
theorem o_impl_ymix_ok (N : Nat) : FnOk E 44 (o_impl_ymix N) := by
  intro R args H K r h
  unfold o_impl_ymix at h
  dsimp only at h
  split at h
  · exact fnB_ok (ids := [0]) (top := [0]) ok (O_impl_ymix_ok N) (jn_ok _ _ _) Go.Proofs.Try.func44 (by kernel_rfl) (IT := IT_impl_ymix_0 N) (sl := sl_impl_ymix) (J := J_impl_ymix) (K := K) (H := []) (IT_impl_ymix_0_ok N) (by kernel_rfl) rfl ((e_impl_ymix N _ _ K).trans h)
  · cases h
/-! ### loop.example/g00038/impl.ysplice -/
abbrev sl_impl_ysplice : SlotT := []
abbrev J_impl_ysplice : JT := jn [] [] []
noncomputable def O_impl_ysplice (N : Nat) : Orc E := noFn
theorem O_impl_ysplice_ok (N : Nat) : OrcOk (O_impl_ysplice N) := noFn_ok
noncomputable def g_impl_ysplice (N : Nat) {R : Type} (s : ByteArray) (n : Int) (s1 : ByteArray) (k : ByteArray → Option R) : Option R :=
  (cond ((decide (((0 : Int) ≤ n))) && (decide ((n ≤ (((ByteArray.size s) : Nat) : Int)))))
  (cond (Nat.ble ((ByteArray.size (ByteArray.extract s 0 (Int.toNat n))) + (ByteArray.size s1)) 9223372036854775807)
    (cond (((decide (((0 : Int) ≤ (IntKind.wrap IntKind.i64 (n + (((ByteArray.size s1) : Nat) : Int)))))) && (decide (((IntKind.wrap IntKind.i64 (n + (((ByteArray.size s1) : Nat) : Int))) ≤ (((ByteArray.size s) : Nat) : Int))))) && (decide (((((ByteArray.size s) : Nat) : Int) ≤ (((ByteArray.size s) : Nat) : Int)))))
      (cond (Nat.ble ((ByteArray.size ((ByteArray.extract s 0 (Int.toNat n)) ++ s1)) + (ByteArray.size (ByteArray.extract s (Int.toNat (IntKind.wrap IntKind.i64 (n + (((ByteArray.size s1) : Nat) : Int)))) (Int.toNat (((ByteArray.size s) : Nat) : Int))))) 9223372036854775807)
        (k (((ByteArray.extract s 0 (Int.toNat n)) ++ s1) ++ (ByteArray.extract s (Int.toNat (IntKind.wrap IntKind.i64 (n + (((ByteArray.size s1) : Nat) : Int)))) (Int.toNat (((ByteArray.size s) : Nat) : Int)))))
        none)
      none)
    none)
  none)
theorem e_impl_ysplice (N : Nat) {R : Type} (s : ByteArray) (n : Int) (s1 : ByteArray) (K : AV → Hp E → Option R) :
    runFnI (E := E) (O_impl_ysplice N) (noIt) sl_impl_ysplice J_impl_ysplice Go.Proofs.Try.f93 [(AV.sc (SV.str s)), (AV.sc (SV.int IntKind.i64 n)), (AV.sc (SV.str s1))] [] K =
      g_impl_ysplice N s n s1 (fun s2 => K (AV.sc (SV.str s2)) []) := by kernel_rfl
noncomputable def o_impl_ysplice (N : Nat) {R : Type} (args : List AV) (H : Hp E) (K : AV → Hp E → Option R) : Option R :=
  match args, H with
  | [(AV.sc (SV.str s)), (AV.sc (SV.int IntKind.i64 n)), (AV.sc (SV.str s1))], [] => g_impl_ysplice N s n s1 (fun s2 => K (AV.sc (SV.str s2)) [])
  | _, _ => none
theorem o_impl_ysplice_ok (N : Nat) : FnOk E 93 (o_impl_ysplice N) := by
  intro R args H K r h
  unfold o_impl_ysplice at h
  dsimp only at h
  split at h
  · exact fnB_ok (ids := []) (top := []) ok (O_impl_ysplice_ok N) (jn_ok _ _ _) Go.Proofs.Try.func93 (by kernel_rfl) (IT := noIt) (sl := sl_impl_ysplice) (J := J_impl_ysplice) (K := K) (H := []) (noIt_ok) (by kernel_rfl) rfl ((e_impl_ysplice N _ _ _ K).trans h)
  · cases h
/-! ### loop.example/g00038/impl.BoardFault -/
abbrev sl_impl_BoardFault_w : SlotT := [(0, ([1, 22, 23, 24], [2]))]
abbrev J_impl_BoardFault_w : JT := jn [(1, [(20, .b)]), (6, [(60, .b)])] [] []
noncomputable def O_impl_BoardFault_w (N : Nat) : Orc E := addFn 78 (o_impl_yin N) (noFn)
noncomputable def pa_impl_BoardFault_w__o_impl_yin (N : Nat) (G_impl_yin : ∀ {R : Type} (n : Int) (n1 : Int) (n2 : Int) (k : Bool → Option R), Option R) {R : Type} (args : List AV) (H : Hp E) (K : AV → Hp E → Option R) : Option R :=
  match args, H with
  | [(AV.sc (SV.int IntKind.i64 n)), (AV.sc (SV.int IntKind.i64 n1)), (AV.sc (SV.int IntKind.i64 n2))], [] => G_impl_yin n n1 n2 (fun b => K (AV.sc (SV.bool b)) [])
  | _, _ => none
noncomputable def OA_impl_BoardFault_w (N : Nat) (G_impl_yin : ∀ {R : Type} (n : Int) (n1 : Int) (n2 : Int) (k : Bool → Option R), Option R) : Orc E := addFn 78 (pa_impl_BoardFault_w__o_impl_yin N G_impl_yin) (noFn)
theorem O_impl_BoardFault_w_ok (N : Nat) : OrcOk (O_impl_BoardFault_w N) := addFn_ok (o_impl_yin_ok N) (noFn_ok)
noncomputable def s_impl_BoardFault_w_0 (N : Nat) {R : Type} (b3 : Bool) (n2 : Int) (l1 : List Device) (n4 : Int) (n5 : Int) (b4 : Bool) (n3 : Int) (ag : Int → Option R)  (kR : Option R) (kN : Option R) : Option R :=
  (cond (decide ((n3 < n2)))
  (cond ((decide (((0 : Int) ≤ n3))) && (decide ((n3 < (((List.length l1) : Nat) : Int)))))
    (elemK l1 (Int.toNat n3) fun x =>
      (oK (g_impl_yin N (Device.fKind x) (1 : Int) (255 : Int) fun b5 =>
        (cond (!b5)
        (some true)
        (g_impl_yin N (Device.fPort x) (0 : Int) (2047 : Int) fun b6 =>
          (cond (!b6)
          (some true)
          (g_impl_yin N (Device.fLine x) (0 : Int) (6 : Int) fun b7 =>
            (cond (!b7)
            (some true)
            (cond (decide ((n3 > (0 : Int))))
              (cond ((decide (((0 : Int) ≤ (IntKind.wrap IntKind.i64 (n3 - (1 : Int)))))) && (decide (((IntKind.wrap IntKind.i64 (n3 - (1 : Int))) < (((List.length l1) : Nat) : Int)))))
                (elemK l1 (Int.toNat (IntKind.wrap IntKind.i64 (n3 - (1 : Int)))) fun x1 =>
                  (some (decide (((Device.fPort x1) ≥ (Device.fPort x))))))
                none)
              (some false)))))))) fun j1 =>
      (cond j1
      kR
      (ag (IntKind.wrap IntKind.i64 (n3 + (1 : Int)))))))
    none)
  kN)
noncomputable def ga_s_impl_BoardFault_w_0 (N : Nat) (G_impl_yin : ∀ {R : Type} (n : Int) (n1 : Int) (n2 : Int) (k : Bool → Option R), Option R) {R : Type} (b3 : Bool) (n2 : Int) (l1 : List Device) (n4 : Int) (n5 : Int) (b4 : Bool) (n3 : Int) (ag : Int → Option R)  (kR : Option R) (kN : Option R) : Option R :=
  (cond (decide ((n3 < n2)))
  (cond ((decide (((0 : Int) ≤ n3))) && (decide ((n3 < (((List.length l1) : Nat) : Int)))))
    (elemK l1 (Int.toNat n3) fun x =>
      (oK (G_impl_yin (Device.fKind x) (1 : Int) (255 : Int) fun b5 =>
        (cond (!b5)
        (some true)
        (G_impl_yin (Device.fPort x) (0 : Int) (2047 : Int) fun b6 =>
          (cond (!b6)
          (some true)
          (G_impl_yin (Device.fLine x) (0 : Int) (6 : Int) fun b7 =>
            (cond (!b7)
            (some true)
            (cond (decide ((n3 > (0 : Int))))
              (cond ((decide (((0 : Int) ≤ (IntKind.wrap IntKind.i64 (n3 - (1 : Int)))))) && (decide (((IntKind.wrap IntKind.i64 (n3 - (1 : Int))) < (((List.length l1) : Nat) : Int)))))
                (elemK l1 (Int.toNat (IntKind.wrap IntKind.i64 (n3 - (1 : Int)))) fun x1 =>
                  (some (decide (((Device.fPort x1) ≥ (Device.fPort x))))))
                none)
              (some false)))))))) fun j1 =>
      (cond j1
      kR
      (ag (IntKind.wrap IntKind.i64 (n3 + (1 : Int)))))))
    none)
  kN)
noncomputable def l_impl_BoardFault_w_0 (N : Nat) {R : Type} (b3 : Bool) (n2 : Int) (l1 : List Device) (n4 : Int) (n5 : Int) (b4 : Bool) (kR : Option R) (kN : Option R) : Nat → Int → Option R
  | 0, _ => none
  | f + 1, n3 => s_impl_BoardFault_w_0 N b3 n2 l1 n4 n5 b4 n3 (fun n3 => l_impl_BoardFault_w_0 N b3 n2 l1 n4 n5 b4 kR kN f n3)  kR kN
noncomputable def c_impl_BoardFault_w_0 (N : Nat) {R : Type} (b3 : Bool) (n2 : Int) (l1 : List Device) (n4 : Int) (n5 : Int) (b4 : Bool) (n3 : Int) (kR : Option R) (kN : Option R) : Option R := l_impl_BoardFault_w_0 N b3 n2 l1 n4 n5 b4 kR kN N n3
theorem ea_se_impl_BoardFault_w_0 (N : Nat) (G_impl_yin : ∀ {R : Type} (n : Int) (n1 : Int) (n2 : Int) (k : Bool → Option R), Option R) {R : Type} (b3 : Bool) (n2 : Int) (l1 : List Device) (n4 : Int) (n5 : Int) (b4 : Bool) (n3 : Int) (AG : List (Option AV) → Hp E → Option R) (KL : Ex → List (Option AV) → Hp E → Option R) :
    iterStep (E := E) (OA_impl_BoardFault_w N G_impl_yin) (fun {R} => LI (noIt) 1 62 sl_impl_BoardFault_w (R := R)) J_impl_BoardFault_w 1 62 0 [1, 22, 23, 24] [2] (body Go.Proofs.Try.f89 0) AG KL [(some (AV.sc (SV.ptr 1 0 0))), (some (AV.sc (SV.slc 0 none b3))), (some (AV.sc (SV.int IntKind.i64 n2))), (some (AV.sc (SV.int IntKind.i64 n3)))] [(some (HE.mk false (HB.rows (B.iDevice l1)))), (some (HE.mk false (HB.exp none [(SV.int IntKind.i64 n4), (SV.int IntKind.i64 n5), (SV.slc 0 none b4)])))] =
      ga_s_impl_BoardFault_w_0 N G_impl_yin b3 n2 l1 n4 n5 b4 n3 (fun n3 => AG [(some (AV.sc (SV.ptr 1 0 0))), (some (AV.sc (SV.slc 0 none b3))), (some (AV.sc (SV.int IntKind.i64 n2))), (some (AV.sc (SV.int IntKind.i64 n3)))] [(some (HE.mk false (HB.rows (B.iDevice l1)))), (some (HE.mk false (HB.exp none [(SV.int IntKind.i64 n4), (SV.int IntKind.i64 n5), (SV.slc 0 none b4)])))])  (KL Ex.ret [(some (AV.sc (SV.int IntKind.i64 (1 : Int))))] [(some (HE.mk false (HB.rows (B.iDevice l1))))]) (KL Ex.normal [none] [(some (HE.mk false (HB.rows (B.iDevice l1))))]) := by kernel_rfl
theorem se_impl_BoardFault_w_0 (N : Nat) {R : Type} (b3 : Bool) (n2 : Int) (l1 : List Device) (n4 : Int) (n5 : Int) (b4 : Bool) (n3 : Int) (AG : List (Option AV) → Hp E → Option R) (KL : Ex → List (Option AV) → Hp E → Option R) :
    iterStep (E := E) (O_impl_BoardFault_w N) (fun {R} => LI (noIt) 1 62 sl_impl_BoardFault_w (R := R)) J_impl_BoardFault_w 1 62 0 [1, 22, 23, 24] [2] (body Go.Proofs.Try.f89 0) AG KL [(some (AV.sc (SV.ptr 1 0 0))), (some (AV.sc (SV.slc 0 none b3))), (some (AV.sc (SV.int IntKind.i64 n2))), (some (AV.sc (SV.int IntKind.i64 n3)))] [(some (HE.mk false (HB.rows (B.iDevice l1)))), (some (HE.mk false (HB.exp none [(SV.int IntKind.i64 n4), (SV.int IntKind.i64 n5), (SV.slc 0 none b4)])))] =
      s_impl_BoardFault_w_0 N b3 n2 l1 n4 n5 b4 n3 (fun n3 => AG [(some (AV.sc (SV.ptr 1 0 0))), (some (AV.sc (SV.slc 0 none b3))), (some (AV.sc (SV.int IntKind.i64 n2))), (some (AV.sc (SV.int IntKind.i64 n3)))] [(some (HE.mk false (HB.rows (B.iDevice l1)))), (some (HE.mk false (HB.exp none [(SV.int IntKind.i64 n4), (SV.int IntKind.i64 n5), (SV.slc 0 none b4)])))])  (KL Ex.ret [(some (AV.sc (SV.int IntKind.i64 (1 : Int))))] [(some (HE.mk false (HB.rows (B.iDevice l1))))]) (KL Ex.normal [none] [(some (HE.mk false (HB.rows (B.iDevice l1))))]) := castPr (by kernel_rfl) (ea_se_impl_BoardFault_w_0 N (g_impl_yin N) b3 n2 l1 n4 n5 b4 n3 AG KL)
theorem le_impl_BoardFault_w_0 (N : Nat) {R : Type} (b3 : Bool) (n2 : Int) (l1 : List Device) (n4 : Int) (n5 : Int) (b4 : Bool) (KL : Ex → List (Option AV) → Hp E → Option R) : ∀ (f : Nat), ∀ (n3 : Int), iterK (E := E) (O_impl_BoardFault_w N) (fun {R} => LI (noIt) 1 62 sl_impl_BoardFault_w (R := R)) J_impl_BoardFault_w 1 62 0 [1, 22, 23, 24] [2] (body Go.Proofs.Try.f89 0) f [(some (AV.sc (SV.ptr 1 0 0))), (some (AV.sc (SV.slc 0 none b3))), (some (AV.sc (SV.int IntKind.i64 n2))), (some (AV.sc (SV.int IntKind.i64 n3)))] [(some (HE.mk false (HB.rows (B.iDevice l1)))), (some (HE.mk false (HB.exp none [(SV.int IntKind.i64 n4), (SV.int IntKind.i64 n5), (SV.slc 0 none b4)])))] KL = l_impl_BoardFault_w_0 N b3 n2 l1 n4 n5 b4 (KL Ex.ret [(some (AV.sc (SV.int IntKind.i64 (1 : Int))))] [(some (HE.mk false (HB.rows (B.iDevice l1))))]) (KL Ex.normal [none] [(some (HE.mk false (HB.rows (B.iDevice l1))))]) f n3 := by
  intro f
  induction f with
  | zero => intros; rfl
  | succ f ih =>
    intro n3
    rw [iterK_succ, se_impl_BoardFault_w_0]
    exact (congrArg (fun z0 => s_impl_BoardFault_w_0 N b3 n2 l1 n4 n5 b4 n3 z0 (KL Ex.ret [(some (AV.sc (SV.int IntKind.i64 (1 : Int))))] [(some (HE.mk false (HB.rows (B.iDevice l1))))]) (KL Ex.normal [none] [(some (HE.mk false (HB.rows (B.iDevice l1))))])) (funext fun n3 => ih n3))
noncomputable def i_impl_BoardFault_w_0 (N : Nat) {R : Type} (vs : List (Option AV)) (H : Hp E) (KL : Ex → List (Option AV) → Hp E → Option R) : Option R :=
  match vs, H with
  | [(some (AV.sc (SV.ptr 1 0 0))), (some (AV.sc (SV.slc 0 none b3))), (some (AV.sc (SV.int IntKind.i64 n2))), (some (AV.sc (SV.int IntKind.i64 n3)))], [(some (HE.mk false (HB.rows (B.iDevice l1)))), (some (HE.mk false (HB.exp none [(SV.int IntKind.i64 n4), (SV.int IntKind.i64 n5), (SV.slc 0 none b4)])))] => c_impl_BoardFault_w_0 N b3 n2 l1 n4 n5 b4 n3 (KL Ex.ret [(some (AV.sc (SV.int IntKind.i64 (1 : Int))))] [(some (HE.mk false (HB.rows (B.iDevice l1))))]) (KL Ex.normal [none] [(some (HE.mk false (HB.rows (B.iDevice l1))))])
  | _, _ => none
noncomputable def IT_impl_BoardFault_w_0 (N : Nat) : Its E := addIt 0 (i_impl_BoardFault_w_0 N) (noIt)
theorem IT_impl_BoardFault_w_0_ok (N : Nat) : ItOk (IT_impl_BoardFault_w_0 N) 1 62 sl_impl_BoardFault_w (lsB Go.Proofs.Try.f89 [0]) :=
  addItB_ok (inner := []) ok (O_impl_BoardFault_w_ok N) (jn_ok _ _ _) (noIt_ok) rfl (by kernel_rfl) rfl fun vs H KL r h => by
    unfold i_impl_BoardFault_w_0 at h
    split at h
    · exact ⟨_, (le_impl_BoardFault_w_0 N _ _ _ _ _ _ KL N _).trans h⟩
    · cases h
noncomputable def g_impl_BoardFault_w (N : Nat) {R : Type} (n : Int) (n1 : Int) (b : Bool) (l : List Device) (k : Int → Option R) : Option R :=
  (oK (g_impl_yin N n (2 : Int) (256 : Int) fun b1 =>
    (cond (!b1)
    (some true)
    (g_impl_yin N n1 (1 : Int) (8 : Int) fun b2 =>
      (cond (!b2)
      (some true)
      (some (decide (((((List.length l) : Nat) : Int) > (16 : Int))))))))) fun j =>
  (cond j
  (k (1 : Int))
  (c_impl_BoardFault_w_0 N b (((List.length l) : Nat) : Int) l n n1 b (0 : Int) (
    (k (1 : Int))) (
    (k (0 : Int))))))
noncomputable def ga_g_impl_BoardFault_w (N : Nat) (G_impl_yin : ∀ {R : Type} (n : Int) (n1 : Int) (n2 : Int) (k : Bool → Option R), Option R) {R : Type} (n : Int) (n1 : Int) (b : Bool) (l : List Device) (k : Int → Option R) : Option R :=
  (oK (G_impl_yin n (2 : Int) (256 : Int) fun b1 =>
    (cond (!b1)
    (some true)
    (G_impl_yin n1 (1 : Int) (8 : Int) fun b2 =>
      (cond (!b2)
      (some true)
      (some (decide (((((List.length l) : Nat) : Int) > (16 : Int))))))))) fun j =>
  (cond j
  (k (1 : Int))
  (c_impl_BoardFault_w_0 N b (((List.length l) : Nat) : Int) l n n1 b (0 : Int) (
    (k (1 : Int))) (
    (k (0 : Int))))))
theorem ea_e_impl_BoardFault_w (N : Nat) (G_impl_yin : ∀ {R : Type} (n : Int) (n1 : Int) (n2 : Int) (k : Bool → Option R), Option R) {R : Type} (n : Int) (n1 : Int) (b : Bool) (l : List Device) (K : AV → Hp E → Option R) :
    runFnI (E := E) (OA_impl_BoardFault_w N G_impl_yin) (IT_impl_BoardFault_w_0 N) sl_impl_BoardFault_w J_impl_BoardFault_w Go.Proofs.Try.f89 [(AV.agg [(SV.int IntKind.i64 n), (SV.int IntKind.i64 n1), (SV.slc 0 none b)])] [(some (HE.mk false (HB.rows (B.iDevice l))))] K =
      ga_g_impl_BoardFault_w N G_impl_yin n n1 b l (fun n6 => K (AV.sc (SV.int IntKind.i64 n6)) [(some (HE.mk false (HB.rows (B.iDevice l))))]) := by kernel_rfl
theorem e_impl_BoardFault_w (N : Nat) {R : Type} (n : Int) (n1 : Int) (b : Bool) (l : List Device) (K : AV → Hp E → Option R) :
    runFnI (E := E) (O_impl_BoardFault_w N) (IT_impl_BoardFault_w_0 N) sl_impl_BoardFault_w J_impl_BoardFault_w Go.Proofs.Try.f89 [(AV.agg [(SV.int IntKind.i64 n), (SV.int IntKind.i64 n1), (SV.slc 0 none b)])] [(some (HE.mk false (HB.rows (B.iDevice l))))] K =
      g_impl_BoardFault_w N n n1 b l (fun n6 => K (AV.sc (SV.int IntKind.i64 n6)) [(some (HE.mk false (HB.rows (B.iDevice l))))]) := castPr (by kernel_rfl) (ea_e_impl_BoardFault_w N (g_impl_yin N) n n1 b l K)
noncomputable def o_impl_BoardFault_w (N : Nat) {R : Type} (args : List AV) (H : Hp E) (K : AV → Hp E → Option R) : Option R :=
  match args, H with
  | [(AV.agg [(SV.int IntKind.i64 n), (SV.int IntKind.i64 n1), (SV.slc 0 none b)])], [(some (HE.mk false (HB.rows (B.iDevice l))))] => g_impl_BoardFault_w N n n1 b l (fun n6 => K (AV.sc (SV.int IntKind.i64 n6)) [(some (HE.mk false (HB.rows (B.iDevice l))))])
  | _, _ => none
theorem o_impl_BoardFault_w_ok (N : Nat) : FnOk E 89 (o_impl_BoardFault_w N) := by
  intro R args H K r h
  unfold o_impl_BoardFault_w at h
  dsimp only at h
  split at h
  · exact fnB_ok (ids := [0]) (top := [0]) ok (O_impl_BoardFault_w_ok N) (jn_ok _ _ _) Go.Proofs.Try.func89 (by kernel_rfl) (IT := IT_impl_BoardFault_w_0 N) (sl := sl_impl_BoardFault_w) (J := J_impl_BoardFault_w) (K := K) (H := [(some (HE.mk false (HB.rows (B.iDevice _))))]) (IT_impl_BoardFault_w_0_ok N) (by kernel_rfl) rfl ((e_impl_BoardFault_w N _ _ _ _ K).trans h)
  · cases h
/-! ### loop.example/g00038/impl.PutWord -/
abbrev sl_impl_PutWord : SlotT := []
abbrev J_impl_PutWord : JT := jn [] [] []
noncomputable def O_impl_PutWord (N : Nat) : Orc E := noFn
theorem O_impl_PutWord_ok (N : Nat) : OrcOk (O_impl_PutWord N) := noFn_ok
noncomputable def g_impl_PutWord (N : Nat) {R : Type} (n : Int) (k : ByteArray → Option R) : Option R :=
  (k (Go.Eng.toBytes (Go.Eng.seg [(IntKind.wrap IntKind.u8 (IntKind.wrap IntKind.u32 n)), (IntKind.wrap IntKind.u8 (Int.fdiv (IntKind.wrap IntKind.u32 n) (256 : Int))), (IntKind.wrap IntKind.u8 (Int.fdiv (IntKind.wrap IntKind.u32 n) (65536 : Int))), (IntKind.wrap IntKind.u8 (Int.fdiv (IntKind.wrap IntKind.u32 n) (16777216 : Int)))] 0 (List.length [(IntKind.wrap IntKind.u8 (IntKind.wrap IntKind.u32 n)), (IntKind.wrap IntKind.u8 (Int.fdiv (IntKind.wrap IntKind.u32 n) (256 : Int))), (IntKind.wrap IntKind.u8 (Int.fdiv (IntKind.wrap IntKind.u32 n) (65536 : Int))), (IntKind.wrap IntKind.u8 (Int.fdiv (IntKind.wrap IntKind.u32 n) (16777216 : Int)))]))))
theorem e_impl_PutWord (N : Nat) {R : Type} (n : Int) (K : AV → Hp E → Option R) :
    runFnI (E := E) (O_impl_PutWord N) (noIt) sl_impl_PutWord J_impl_PutWord Go.Proofs.Try.f38 [(AV.sc (SV.int IntKind.i64 n))] [] K =
      g_impl_PutWord N n (fun s => K (AV.sc (SV.str s)) []) := by kernel_rfl
noncomputable def o_impl_PutWord (N : Nat) {R : Type} (args : List AV) (H : Hp E) (K : AV → Hp E → Option R) : Option R :=
  match args, H with
  | [(AV.sc (SV.int IntKind.i64 n))], [] => g_impl_PutWord N n (fun s => K (AV.sc (SV.str s)) [])
  | _, _ => none
theorem o_impl_PutWord_ok (N : Nat) : FnOk E 38 (o_impl_PutWord N) := by
  intro R args H K r h
  unfold o_impl_PutWord at h
  dsimp only at h
  split at h
  · exact fnB_ok (ids := []) (top := []) ok (O_impl_PutWord_ok N) (jn_ok _ _ _) Go.Proofs.Try.func38 (by kernel_rfl) (IT := noIt) (sl := sl_impl_PutWord) (J := J_impl_PutWord) (K := K) (H := []) (noIt_ok) (by kernel_rfl) rfl ((e_impl_PutWord N _ K).trans h)
  · cases h
end Go.Sa
